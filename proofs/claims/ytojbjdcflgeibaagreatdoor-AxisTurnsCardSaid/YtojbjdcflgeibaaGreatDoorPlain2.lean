/- THE DOCUMENT, plain: what is below a node stands in one stretch; where it ends. No program, no memory. Conditions: none. -/
import Derived.Test.YtojbjdcflgeibaaGreatDoorPlain1
import Derived.KernelRfl
set_option maxRecDepth 20000
set_option linter.unusedVariables false
set_option linter.unusedSimpArgs false
namespace G
open W
theorem Anc.trans {l:List zf}{a b c:Nat}(h:Anc l a b)(k:Anc l b c):Anc l a c:=by
 induction h with
 |refl y=>exact k
 |step h1 h2 h3 ih=>exact .step h1 h2 (ih k)
theorem Anc.le {l:List zf}(hp:ParOk l l.length)(h0: ∀ r,l[0]? =some r→r.Parent= -1){a b:Nat}(h:Anc l a b):b≤a:=by
 induction h with
 |refl y=>exact Nat.le_refl _
 | @step y a z h1 h2 h3 ih=>
  by_cases hy:y=0
  ·subst hy;have:=h0 z h1;omega
  ·have:=hp y z (by omega) (List.getElem?_eq_some_iff.1 h1).1 h1
   omega
theorem Anc.up {l:List zf}{m n:Nat}(h:Anc l m n)(hne:m≠n): ∃ z,l[m]? =some z∧0≤z.Parent∧Anc l z.Parent.toNat n:=by
 cases h with
 |refl=>exact absurd rfl hne
 |step h1 h2 h3=>exact ⟨_,h1,h2,h3⟩
theorem anc_down {l:List zf}{t:Int}(hL:ListOk l t){m n:Nat}(hm:m<l.length)(h:Anc l m n): ∀ j,n≤j→j≤m→Anc l j n:=by
 have hp:ParOk l l.length:=fun m x a b c=>(hL.node m x a b c).par
 have h0: ∀ r,l[0]? =some r→r.Parent= -1:=fun r hr=>by
  obtain ⟨r',h1,_,h2,_⟩:=hL.root
  rw [h1] at hr;cases hr;exact h2
 have one: ∀ m,m<l.length→Anc l m n→n<m→Anc l (m-1) n:=fun m hm h hlt=>by
  obtain ⟨z,h1,h2,h3⟩:=h.up (by omega);exact (hL.node m z (by omega) hm h1).anc.trans h3
 have key: ∀ d j,m=j+d→n≤j→Anc l j n:=by
  intro d
  induction d with
  |zero=>intro j e _;rw [←show m=j from e];exact h
  |succ d ih=>
   intro j e hj
   have:=one (j+1) (by omega) (ih (j+1) (by omega) (by omega)) (by omega)
   exact this
 intro j h1 h2
 exact key (m-j) j (by omega) h1
def gz (en:List Int)(j:Nat):Int:=en[j]?.getD 0
theorem gz_set (en:List Int)(i j:Nat)(v:Int)(hi:i<en.length):gz (en.set i v) j=if i=j then v else gz en j:=by
 unfold gz
 rw [List.getElem?_set]
 by_cases h:i=j
 ·subst h;rw [if_pos rfl,if_pos rfl,if_pos hi];rfl
 ·rw [if_neg h,if_neg h]
theorem gz_get {en:List Int}{j:Nat}(h:j<en.length):gz en j=en[j]:=by unfold gz;rw [List.getElem?_eq_getElem h];rfl
structure EInv (l:List zf) (k:Nat) (en:List Int):Prop where
 len:en.length=l.length
 wit: ∀ j,j<l.length→gz en j=0∨ ∃ m:Nat,m<l.length∧Anc l m j∧gz en j=(m:Int)+1
 own: ∀ j,k≤j→j<l.length→(j:Int)+1≤gz en j
 kid: ∀ c x,k≤c→0<c→l[c]? =some x→gz en c≤gz en x.Parent.toNat
theorem mx_eq (a b:Int):mx a b=a∨mx a b=b:=by unfold mx;split<;>simp
theorem mx_le (a b:Int):a≤mx a b∧b≤mx a b:=by unfold mx;split<;>omega
theorem EInv.step {l:List zf}{t:Int}(hL:ListOk l t){k:Nat}(hk:k<l.length){en:List Int}(h:EInv l (k+1) en){x:zf}(hx:l[k]? =some x):
 (x.Parent≥0→EInv l k ((en.set k (mx (gz en k) ((k:Int)+1))).set x.Parent.toNat (mx (gz (en.set k (mx (gz en k) ((k:Int)+1))) x.Parent.toNat) (gz (en.set k (mx (gz en k) ((k:Int)+1))) k))))∧(¬ x.Parent≥0→EInv l k (en.set k (mx (gz en k) ((k:Int)+1)))):=by
 have hlen:=h.len
 have g1: ∀ j,gz (en.set k (mx (gz en k) ((k:Int)+1))) j=if k=j then mx (gz en k) ((k:Int)+1) else gz en j:=fun j=>gz_set en k j _ (by omega)
 have hm1:=mx_le (gz en k) ((k:Int)+1)
 have w1: ∀ j,j<l.length→gz (en.set k (mx (gz en k) ((k:Int)+1))) j=0∨ ∃ m:Nat,m<l.length∧Anc l m j∧gz (en.set k (mx (gz en k) ((k:Int)+1))) j=(m:Int)+1:=fun j hj=>by
  rw [g1 j]
  by_cases e:k=j
  ·subst e
   rw [if_pos rfl]
   rcases mx_eq (gz en k) ((k:Int)+1) with hq|hq
   ·rw [hq];exact h.wit k hj
   ·rw [hq];exact Or.inr ⟨k,hj,.refl k,rfl⟩
  ·rw [if_neg e];exact h.wit j hj
 constructor
 ·intro hpar
  have hk0:0<k:=by
   rcases Nat.eq_zero_or_pos k with e|e
   ·subst e
    obtain ⟨r',h1,_,h2,_⟩:=hL.root
    rw [h1] at hx;cases hx;omega
   ·exact e
  obtain ⟨p0,p1⟩:=(hL.node k x hk0 hk hx).par
  have hpk:x.Parent.toNat<k:=by omega
  have gk:gz (en.set k (mx (gz en k) ((k:Int)+1))) k=mx (gz en k) ((k:Int)+1):=by rw [g1 k,if_pos rfl]
  have gp:gz (en.set k (mx (gz en k) ((k:Int)+1))) x.Parent.toNat=gz en x.Parent.toNat:=by rw [g1,if_neg (by omega)]
  rw [gk,gp]
  have hm2:=mx_le (gz en x.Parent.toNat) (mx (gz en k) ((k:Int)+1))
  have g2: ∀ j,gz ((en.set k (mx (gz en k) ((k:Int)+1))).set x.Parent.toNat (mx (gz en x.Parent.toNat) (mx (gz en k) ((k:Int)+1)))) j=if x.Parent.toNat=j then mx (gz en x.Parent.toNat) (mx (gz en k) ((k:Int)+1)) else if k=j then mx (gz en k) ((k:Int)+1) else gz en j:=fun j=>by
   rw [gz_set _ _ _ _ (by rw [List.length_set];omega),g1 j]
  refine ⟨by rw [List.length_set,List.length_set];exact hlen,fun j hj=> ?_,fun j h1 h2=> ?_,fun c y h1 h2 h3=> ?_⟩
  ·rw [g2 j]
   by_cases e:x.Parent.toNat=j
   ·subst e
    rw [if_pos rfl]
    rcases mx_eq (gz en x.Parent.toNat) (mx (gz en k) ((k:Int)+1)) with hq|hq
    ·rw [hq];exact h.wit _ hj
    ·rw [hq]
     have:=w1 k hk
     rw [gk] at this
     rcases this with a|⟨m,a,b,c⟩
     ·exact Or.inl a
     ·exact Or.inr ⟨m,a,b.trans (.step hx p0 (.refl _)),c⟩
   ·rw [if_neg e]
    have:=w1 j hj
    rw [g1 j] at this
    exact this
  ·rw [g2 j,if_neg (by omega)]
   by_cases e:k=j
   ·subst e;rw [if_pos rfl];omega
   ·rw [if_neg e];exact h.own j (by omega) h2
  ·have hcl:=(List.getElem?_eq_some_iff.1 h3).1
   have hy:=(hL.node c y h2 hcl h3).par
   rw [g2 c,g2 y.Parent.toNat,if_neg (by omega)]
   by_cases e:k=c
   ·subst e
    rw [hx] at h3;cases h3
    rw [if_pos rfl,if_pos rfl];omega
   ·rw [if_neg e]
    have hold:=h.kid c y (by omega) h2 h3
    by_cases e2:x.Parent.toNat=y.Parent.toNat
    ·rw [if_pos e2,e2]
     have:=mx_le (gz en y.Parent.toNat) (mx (gz en k) ((k:Int)+1))
     omega
    ·rw [if_neg e2]
     by_cases e3:k=y.Parent.toNat
     ·rw [if_pos e3]
      rw [←e3] at hold;omega
     ·rw [if_neg e3];exact hold
 ·intro hpar
  refine ⟨by rw [List.length_set];exact hlen,w1,fun j h1 h2=> ?_,fun c y h1 h2 h3=> ?_⟩
  ·rw [g1 j]
   by_cases e:k=j
   ·subst e;rw [if_pos rfl];omega
   ·rw [if_neg e];exact h.own j (by omega) h2
  ·have hcl:=(List.getElem?_eq_some_iff.1 h3).1
   have hy:=(hL.node c y h2 hcl h3).par
   by_cases e:k=c
   ·subst e
    rw [hx] at h3;cases h3;omega
   ·rw [g1 c,if_neg e,g1 y.Parent.toNat]
    have hold:=h.kid c y (by omega) h2 h3
    by_cases e3:k=y.Parent.toNat
    ·rw [if_pos e3];rw [←e3] at hold;omega
    ·rw [if_neg e3];exact hold
def EndOk (l:List zf)(en:List Int):Prop:=en.length=l.length∧ ∀ j,j<l.length→ ∃ e:Nat,en[j]? =some (e:Int)∧j<e∧e≤l.length∧ ∀ m,j≤m→m<l.length→(m<e↔Anc l m j)
theorem EInv.done {l:List zf}{t:Int}(hL:ListOk l t){en:List Int}(h:EInv l 0 en):EndOk l en:=by
 refine ⟨h.len,fun j hj=> ?_⟩
 have hj':j<en.length:=by have:=h.len;omega
 have hown:=h.own j (Nat.zero_le _) hj
 rcases h.wit j hj with a|⟨m,a,b,c⟩
 ·omega
 ·refine ⟨m+1,?_,by omega,by omega,fun i h1 h2=>⟨fun hi=>anc_down hL a b i h1 (by omega),fun hi=> ?_⟩⟩
  ·rw [List.getElem?_eq_getElem hj',←gz_get hj',c];rfl
  ·have chain: ∀ {y z:Nat},Anc l y z→y<l.length→gz en y≤gz en z:=fun {y z} hyz=>by
    induction hyz with
    |refl y=>intro _;exact Int.le_refl _
    | @step y z' w s1 s2 s3 ih=>
     intro hy
     by_cases y0:y=0
     ·subst y0
      obtain ⟨r',r1,_,r2,_⟩:=hL.root
      rw [r1] at s1;cases s1;omega
     ·have hpw:=(hL.node y w (by omega) hy s1).par
      have k1:=h.kid y w (Nat.zero_le _) (by omega) s1
      have k2:=ih (by omega)
      omega
   have k1:=chain hi h2
   have k2:=h.own i (Nat.zero_le _) h2
   omega
open Go.Lib (decodeL decodeN validD index cut contains replaceK replaceAll)
theorem within_loop (l:List zf)(hlen:l.length≤4000)(hall: ∀ y∈l,okN y)(hp:ParOk l l.length): ∀ (k i:Nat) (dp:List Int),l.length-i≤k→i≤l.length→dp.length=l.length→(∀ v∈dp,0≤v∧v≤(i:Int))→ ∃ v,iter (zK l) ((i:Int),dp)=some v∧(v= .inr ()→ ∀ m x,i≤m→l[m]? =some x→x.Decls.length+x.Attrs.length≤64):=by
 intro k
 induction k with
 |zero=>
  intro i dp h1 h2 h3 h4
  refine ⟨.inr (),zi ?_,fun _ m x hm hx=> ?_⟩
  ·unfold zK
   have e:decide ((i:Int)<(l.length:Int))=false:=by rw [decide_eq_false_iff_not];omega
   simp only [e,cond_false]
  ·have:=(List.getElem?_eq_some_iff.1 hx).1;omega
 |succ k ih=>
  intro i dp h1 h2 h3 h4
  by_cases hi:i<l.length
  ·have e:decide ((i:Int)<(l.length:Int))=true:=by rw [decide_eq_true_eq];omega
   have hid:i<dp.length:=by omega
   have hx:l[i]? =some l[i]:=List.getElem?_eq_getElem hi
   have hat:at' l (i:Int)=some l[i]:=zZ hi
   have hok:=hall l[i] (List.getElem_mem hi)
   generalize l[i]=x at hx hat hok
   have hsz:w64 ((x.Decls.length:Int)+(x.Attrs.length:Int))=((x.Decls.length+x.Attrs.length:Nat):Int):=by
    have:=hok.2.2.2.2.1;have:=hok.2.2.2.2.2.1
    rw [qI (by omega)];omega
   have hw:w64 ((i:Int)+1)=((i+1:Nat):Int):=zN (by omega)
   have adi:at' dp (i:Int)=some dp[i]:=zZ hid
   have bad:zK l ((i:Int),dp)=some (.inr (.inl ()))→ ∃ v,iter (zK l) ((i:Int),dp)=some v∧(v= .inr ()→ ∀ m x,i≤m→l[m]? =some x→x.Decls.length+x.Attrs.length≤64):=fun h=>⟨.inl (),zi h,fun h=>by cases h⟩
   have next: ∀ dp':List Int,dp'.length=l.length→(∀ v∈dp',0≤v∧v≤((i+1:Nat):Int))→x.Decls.length+x.Attrs.length≤64→zK l ((i:Int),dp)=some (.inl (((i+1:Nat):Int),dp'))→ ∃ v,iter (zK l) ((i:Int),dp)=some v∧(v= .inr ()→ ∀ m x,i≤m→l[m]? =some x→x.Decls.length+x.Attrs.length≤64):=fun dp' a b c h=>by
    obtain ⟨v,k1,k2⟩:=ih (i+1) dp' (by omega) (by omega) a b;refine ⟨v,by rw [zw h];exact k1,fun hv m y hm hy=> ?_⟩
    by_cases hmi:m=i
    ·subst hmi;rw [hx] at hy;cases hy;exact c
    ·exact k2 hv m y (by omega) hy
   by_cases h0:i=0
   ·subst h0
    have e0:decide (((0:Nat):Int)>0)=false:=rfl
    by_cases c1:dp[0]>64
    ·apply bad;unfold zK
     simp only [e,cond_true,hat,Option.bind_some,e0,cond_false,adi]
     rw [show decide (dp[0]>64)=true by rw [decide_eq_true_eq];exact c1];rfl
    ·by_cases c2:x.Decls.length+x.Attrs.length>64
     ·apply bad;unfold zK
      simp only [e,cond_true,hat,Option.bind_some,e0,cond_false,adi]
      rw [show decide (dp[0]>64)=false by rw [decide_eq_false_iff_not];exact c1,hsz,show decide (((x.Decls.length+x.Attrs.length:Nat):Int)>64)=true by rw [decide_eq_true_eq];omega];rfl
     ·refine next dp h3 (fun v hv=>by have:=h4 v hv;omega) (by omega) ?_;unfold zK
      simp only [e,cond_true,hat,Option.bind_some,e0,cond_false,adi]
      rw [show decide (dp[0]>64)=false by rw [decide_eq_false_iff_not];exact c1,hsz,show decide (((x.Decls.length+x.Attrs.length:Nat):Int)>64)=false by rw [decide_eq_false_iff_not];omega,hw];rfl
   ·have e0:decide ((i:Int)>0)=true:=by rw [decide_eq_true_eq];omega
    obtain ⟨p0,p1⟩:=hp i x (by omega) hi hx
    have hpl:x.Parent.toNat<dp.length:=by omega
    have hpn:((x.Parent.toNat:Nat):Int)=x.Parent:=by omega
    have adp:at' dp x.Parent=some dp[x.Parent.toNat]:=by have:=zZ hpl;rwa [hpn] at this
    have hv0:=h4 _ (List.getElem_mem hpl)
    have hwp:w64 (dp[x.Parent.toNat]+1)=dp[x.Parent.toNat]+1:=qI (by omega)
    have hput:put dp (i:Int) (dp[x.Parent.toNat]+1)=some (dp.set i (dp[x.Parent.toNat]+1)):=put_of hid _
    have ads:at' (dp.set i (dp[x.Parent.toNat]+1)) (i:Int)=some (dp[x.Parent.toNat]+1):=by
     have:=zZ (l:=dp.set i (dp[x.Parent.toNat]+1)) (i:=i) (by rw [List.length_set];exact hid)
     rw [this,List.getElem_set_self]
    have st:zK l ((i:Int),dp)=(bif decide (dp[x.Parent.toNat]+1>64) then some (.inr (.inl ())) else (bif decide (((x.Decls.length+x.Attrs.length:Nat):Int)>64) then some (.inr (.inl ())) else some (.inl (((i+1:Nat):Int),dp.set i (dp[x.Parent.toNat]+1))))):=by
     unfold zK
     simp only [e,cond_true,hat,Option.bind_some,e0,adp,adi,hwp,hput,ads,hsz,hw]
    by_cases c1:dp[x.Parent.toNat]+1>64
    ·apply bad
     rw [st,show decide (dp[x.Parent.toNat]+1>64)=true by rw [decide_eq_true_eq];exact c1];rfl
    ·rw [show decide (dp[x.Parent.toNat]+1>64)=false by rw [decide_eq_false_iff_not];exact c1] at st
     by_cases c2:x.Decls.length+x.Attrs.length>64
     ·apply bad
      rw [st,show decide (((x.Decls.length+x.Attrs.length:Nat):Int)>64)=true by rw [decide_eq_true_eq];omega];rfl
     ·rw [show decide (((x.Decls.length+x.Attrs.length:Nat):Int)>64)=false by rw [decide_eq_false_iff_not];omega] at st
      refine next _ (by rw [List.length_set];exact h3) (fun v hv=> ?_) (by omega) st
      rcases List.mem_or_eq_of_mem_set hv with h|h
      ·have:=h4 v h;omega
      ·omega
  ·refine ⟨.inr (),zi ?_,fun _ m x hm hx=> ?_⟩
   ·unfold zK
    have e:decide ((i:Int)<(l.length:Int))=false:=by rw [decide_eq_false_iff_not];omega
    simp only [e,cond_false]
   ·have:=(List.getElem?_eq_some_iff.1 hx).1;omega
theorem within_some (l:List zf)(hall: ∀ y∈l,okN y)(hp:ParOk l l.length): ∃ v,zaT l=some v∧(v=true→l.length≤4000∧ ∀ x∈l,x.Decls.length+x.Attrs.length≤64):=by
 unfold zaT
 by_cases h:l.length>4000
 ·rw [show decide ((l.length:Int)>4000)=true by rw [decide_eq_true_eq];omega]
  exact ⟨false,rfl,fun h=>by cases h⟩
 ·rw [show decide ((l.length:Int)>4000)=false by rw [decide_eq_false_iff_not];omega]
  obtain ⟨dp,hdp,hl,h0⟩: ∃ dp:List Int,mk 8 (l.length:Int) 0=some dp∧dp.length=l.length∧ ∀ v∈dp,v=0:=⟨_,mk_of 0 (by omega),by rw [List.length_replicate];omega,fun v hv=>(List.mem_replicate.1 hv).2⟩;obtain ⟨v,k1,k2⟩:=within_loop l (by omega) hall hp l.length 0 dp (by omega) (by omega) hl (fun v hv=>by rw [h0 v hv];decide)
  rw [hdp]
  simp only [cond_false,Option.bind_some]
  rw [show iter (zK l) (0,dp)=_ from k1]
  cases v with
  |inl u=>exact ⟨false,rfl,fun h=>by cases h⟩
  |inr u=>exact ⟨true,rfl,fun _=>⟨by omega,fun x hx=>by
   obtain ⟨m,hm⟩:=List.getElem?_of_mem hx
   exact k2 rfl m x (Nat.zero_le _) hm⟩⟩
theorem cloneD_eq (x:zf)(h:okN x):doc_clone x=some (x.Kind,x.Parent,x.Prefix,x.Local,x.URI,x.Text,x.Decls,x.Attrs):=by
 have h1:=h.2.2.2.2.1;have h2:=h.2.2.2.2.2.1
 unfold doc_clone Qa zah
 rw [QJ (by simp;omega),QJ (by simp;omega)];rfl
theorem copy_loop (l:List zf)(hall: ∀ y∈l,okN y)(hlen:l.length≤1073741824): ∀ (k i:Nat),l.length-i≤k→i≤l.length→iter (za1 l) ((i:Int),l.take i)=some l:=by
 intro k
 induction k with
 |zero=>
  intro i h1 h2
  refine zi ?_;unfold za1
  have e:decide ((i:Int)<(l.length:Int))=false:=by rw [decide_eq_false_iff_not];omega
  rw [List.take_of_length_le (by omega)]
  simp only [e,cond_false]
 |succ k ih=>
  intro i h1 h2
  by_cases hi:i<l.length
  ·have e:decide ((i:Int)<(l.length:Int))=true:=by rw [decide_eq_true_eq];omega
   have k1:=ih (i+1) (by omega) (by omega)
   rw [List.take_succ_eq_append_getElem hi] at k1
   rw [←k1]
   refine zw ?_;unfold za1
   simp only [e,cond_true]
   rw [zZ hi]
   simp only [Option.bind_some]
   rw [cloneD_eq _ (hall _ (List.getElem_mem hi))]
   simp only [Option.bind_some]
   rw [QJ (by simp;omega)]
   simp only [Option.bind_some]
   rw [zN (by omega)]
  ·refine zi ?_;unfold za1
   have e:decide ((i:Int)<(l.length:Int))=false:=by rw [decide_eq_false_iff_not];omega
   rw [List.take_of_length_le (by omega)]
   simp only [e,cond_false]
theorem end_loop (l:List zf){t:Int}(hL:ListOk l t)(hlen:l.length≤1073741824): ∀ (k:Nat) (en:List Int),k≤l.length→EInv l k en→ ∃ en',iter (za3 l) ((k:Int)-1,en)=some en'∧EInv l 0 en':=by
 intro k
 induction k with
 |zero=>
  intro en h1 h2
  exact ⟨en,zi rfl,h2⟩
 |succ k ih=>
  intro en h1 h2
  rw [show (((k+1:Nat):Int)-1)=(k:Int) by omega]
  have hk:k<l.length:=by omega
  have hke:k<en.length:=by have:=h2.len;omega
  have e:decide ((k:Int)≥0)=true:=by simp
  have hx:l[k]? =some l[k]:=List.getElem?_eq_getElem hk
  have hat:at' l (k:Int)=some l[k]:=zZ hk
  generalize l[k]=x at hx hat
  have hst:=h2.step hL hk hx
  have ake:at' en (k:Int)=some (gz en k):=by rw [zZ hke,gz_get hke]
  have pke: ∀ v,put en (k:Int) v=some (en.set k v):=fun v=>put_of hke v
  have hwk:w64 ((k:Int)-1)=(k:Int)-1:=qI (by omega)
  have hwk1:w64 ((k:Int)+1)=(k:Int)+1:=qI (by omega)
  by_cases hpar:x.Parent≥0
  ·have hkp:0<k:=by
    rcases Nat.eq_zero_or_pos k with h|h
    ·subst h
     obtain ⟨r',r1,_,r2,_⟩:=hL.root
     rw [r1] at hx;cases hx;omega
    ·exact h
   obtain ⟨p0,p1⟩:=(hL.node k x hkp hk hx).par
   have hpn:((x.Parent.toNat:Nat):Int)=x.Parent:=by omega
   have hs:=hst.1 hpar
   have hEl:(en.set k (mx (gz en k) ((k:Int)+1))).length=l.length:=by rw [List.length_set];exact h2.len
   obtain ⟨en',k1,k2⟩:=ih _ (by omega) hs;refine ⟨en',?_,k2⟩
   rw [←k1]
   refine zw ?_;unfold za3
   simp only [e,cond_true,ake,Option.bind_some,pke,hat,hwk1]
   rw [show decide (x.Parent≥0)=true by rw [decide_eq_true_eq];exact hpar]
   generalize en.set k (mx (gz en k) ((k:Int)+1))=E at hEl ⊢
   have hpl:x.Parent.toNat<E.length:=by omega
   have hkl:k<E.length:=by omega
   have a1:at' E x.Parent=some (gz E x.Parent.toNat):=by have:=zZ hpl;rw [hpn] at this;rw [this,gz_get hpl]
   have a2:at' E (k:Int)=some (gz E k):=by rw [zZ hkl,gz_get hkl]
   have p1': ∀ v,put E x.Parent v=some (E.set x.Parent.toNat v):=fun v=>by have:=put_of hpl v;rwa [hpn] at this
   simp only [cond_true,a1,a2,p1',Option.bind_some,hwk]
  ·obtain ⟨en',k1,k2⟩:=ih _ (by omega) (hst.2 hpar);refine ⟨en',?_,k2⟩
   rw [←k1]
   refine zw ?_;unfold za3
   simp only [e,cond_true,ake,Option.bind_some,pke,hat,hwk1]
   rw [show decide (x.Parent≥0)=false by rw [decide_eq_false_iff_not];exact hpar]
   simp only [cond_false,hwk]
structure DocOk (d:qg):Prop where
 list:ListOk d.l d.top
 many:d.l.length≤4000
 few: ∀ x∈d.l,x.Decls.length+x.Attrs.length≤64
 size: ∀ x∈d.l,okN x
 ends:EndOk d.l d.end_
theorem Of_some (l:List zf)(hall: ∀ y∈l,okN y)(hlen:l.length≤1073741824):doc_Of l=some (none,2)∨doc_Of l=some (none,3)∨ ∃ d,doc_Of l=some (some d,0)∧d.l=l∧DocOk d:=by
 obtain ⟨v,c1,c2⟩:=check_some l hall hlen;unfold doc_Of
 rw [c1]
 simp only [Option.bind_some]
 cases h:v.2 with
 |false=>exact Or.inl rfl
 |true=>
  have hL:=c2 h
  obtain ⟨r,h0,_,hr,_⟩:=hL.root
  have hp:ParOk l l.length:=fun m x a b c=>(hL.node m x a b c).par
  obtain ⟨w,w1,w2⟩:=within_some l hall hp
  simp only [Bool.not_true,cond_false,w1,Option.bind_some]
  cases hw:w with
  |false=>exact Or.inr (Or.inl rfl)
  |true=>
   obtain ⟨m1,m2⟩:=w2 hw
   right;right
   obtain ⟨en,hen,hel,he0⟩: ∃ en:List Int,mk 8 (l.length:Int) 0=some en∧en.length=l.length∧ ∀ j,gz en j=0:=⟨_,mk_of 0 (by omega),by rw [List.length_replicate];omega,fun j=>by unfold gz;rw [List.getElem?_replicate];split<;>rfl⟩
   have hc:=copy_loop l hall hlen l.length 0 (by omega) (by omega)
   rw [List.take_zero] at hc
   have hI:EInv l l.length en:=⟨hel,fun j _=>Or.inl (he0 j),fun j a b=>by omega,fun c x a b hc=>by have:=(List.getElem?_eq_some_iff.1 hc).1;omega⟩
   obtain ⟨en',e1,e2⟩:=end_loop l hL hlen l.length en (Nat.le_refl _) hI
   have hl1:1≤l.length:=by have:=(List.getElem?_eq_some_iff.1 h0).1;omega
   refine ⟨qg.mk l en' v.1,?_,rfl,⟨hL,m1,m2,hall,e2.done hL⟩⟩
   simp only [Bool.not_true,cond_false]
   rw [hen,Option.bind_some,show iter (za1 l) (0,[])=some l from hc,Option.bind_some,qI (by omega),e1,Option.bind_some]
theorem replK_text (old new:Str)(hold:old≠[])(ho: ∀ b∈old,b.toNat<128)(hn:textB new=true): ∀ (k:Nat) (s:Str),textB s=true→textB (replaceK old new k s)=true:=by
 intro k
 induction k with
 |zero=>intro s h;exact h
 |succ k ih=>
  intro s h
  unfold replaceK
  split
  ·exact h
  ·rename_i hm
   have hge:=Go.Lib.index_ge s old
   have h0:0≤index s old:=by
    have:index s old≠ -1:=by simpa using hm
    omega
   have hc:(cut s old).2.2=true:=by unfold Go.Lib.cut;rw [if_pos h0]
   obtain ⟨t1,t2⟩:=cut_text (q:=old) ho hold h
   have t2:=t2 hc
   have e1:(cut s old).1=s.take (index s old).toNat:=by unfold Go.Lib.cut;rw [if_pos h0]
   have e2:(cut s old).2.1=s.drop ((index s old).toNat+old.length):=by unfold Go.Lib.cut;rw [if_pos h0]
   rw [e1] at t1
   rw [e2] at t2
   have:=ih _ t2
   rw [List.append_assoc,textB_app _ _ _ (Nat.le_refl _) t1,textB_app _ _ _ (Nat.le_refl _) hn]
   exact this
theorem lines_text {s:Str}(h:textB s=true):textB (lines s)=true:=by
 have one: ∀ (old new s:Str),old≠[]→(∀ b∈old,b.toNat<128)→textB new=true→textB s=true→textB (replaceAll s old new)=true:=fun old new s a b c d=>by
  unfold replaceAll Go.Lib.replace
  split
  ·exact d
  ·exact replK_text old new a b c _ s d
 have t10:textB [10]=true:=by rw [textB_cons 10 [] (by decide)];rfl
 exact one [13] [10] _ (by simp) (by decide) t10 (one [13,10] [10] s (by simp) (by decide) t10 h)
theorem Parse_some (b:Str): ∃ v,JI b=some v∧((v.1=none∧(v.2=2∨v.2=3))∨(∃ d,v.1=some d∧v.2=0∧DocOk d)):=by
 unfold JI
 by_cases hb:b.length>65536
 ·rw [show decide ((b.length:Int)>65536)=true by rw [decide_eq_true_eq];omega]
  exact ⟨(none,3),rfl,Or.inl ⟨rfl,Or.inr rfl⟩⟩
 ·rw [show decide ((b.length:Int)>65536)=false by rw [decide_eq_false_iff_not];omega,Text_eq b (by omega)]
  simp only [cond_false,Option.bind_some]
  cases ht:textB b with
  |false=>exact ⟨(none,2),rfl,Or.inl ⟨rfl,Or.inl rfl⟩⟩
  |true=>
   have hl:=lines_len b
   rw [Lines_eq b (by omega)]
   simp only [Bool.not_true,cond_false,Option.bind_some]
   obtain ⟨v3,d1,d2,d3⟩:=declaration_eq true false [(zf.mk 0 (-1) [] [] [] [] [] [])] [] [] (lines b) (by omega) (lines_text ht)
   rw [d1]
   simp only [Option.bind_some]
   cases h3:v3.1 with
   |false=>exact ⟨(none,2),rfl,Or.inl ⟨rfl,Or.inl rfl⟩⟩
   |true=>
    obtain ⟨l3,t3⟩:=d3 h3
    have hI:Inv 65536 v3.2 [(zf.mk 0 (-1) [] [] [] [] [] [])] [] []:=⟨t3,by simp;omega,by simp,by simp,(fun o ho=>by cases ho),(fun y hy=>by
     obtain rfl:=List.mem_singleton.1 hy
     exact ⟨Nat.zero_le _,Nat.zero_le _,Nat.zero_le _,Nat.zero_le _,Nat.zero_le _,Nat.zero_le _,by simp,by simp⟩),by simp;omega⟩
    obtain ⟨r1,r2⟩:=run_loop (N:=65536) (by omega) (v3.2.length+1) v3.2 true [(zf.mk 0 (-1) [] [] [] [] [] [])] [] [] (by omega) hI
    simp only [Bool.not_true,cond_false]
    rw [r1]
    cases hq:runL (v3.2.length+1) v3.2 true [(zf.mk 0 (-1) [] [] [] [] [] [])] [] [] with
    |none=>exact ⟨(none,2),rfl,Or.inl ⟨rfl,Or.inl rfl⟩⟩
    |some q=>
     obtain ⟨nb',l',p',x',rfl,hI'⟩:=r2 q hq
     simp only [Option.bind_some,Sum.elim_inr]
     by_cases hp:p'=[]
     ·subst hp
      simp only [List.length_nil,show decide ((((0:Nat):Int))>0)=false from rfl,cond_false]
      have hl':=hI'.hl
      rcases Of_some l' hI'.hn (by simp at hl';omega) with h|h|⟨d,h,h',hd⟩
      ·rw [h];exact ⟨(none,2),rfl,Or.inl ⟨rfl,Or.inl rfl⟩⟩
      ·rw [h];exact ⟨(none,3),rfl,Or.inl ⟨rfl,Or.inr rfl⟩⟩
      ·rw [h];exact ⟨(some d,0),rfl,Or.inr ⟨d,rfl,rfl,hd⟩⟩
     ·have:0<p'.length:=List.length_pos_iff.2 hp
      rw [show decide ((p'.length:Int)>0)=true by rw [decide_eq_true_eq];omega]
      exact ⟨(none,2),rfl,Or.inl ⟨rfl,Or.inl rfl⟩⟩
def targetB:Str→Bool
 |[a,b,c]=>(a.toNat==120||a.toNat==88)&&((b.toNat==109||b.toNat==77)&&(c.toNat==108||c.toNat==76))
 |_=>false
theorem i_n (c:UInt8)(n:Nat):((c.toNat:Int)==(n:Int))=(c.toNat==n):=by
 rw [Bool.eq_iff_iff];simp only [beq_iff_eq];omega
theorem target_eq (s:Str):zaU s=some (targetB s):=by
 unfold zaU
 by_cases h:s.length=3
 ·obtain ⟨a,b,c,rfl⟩: ∃ a b c,s=[a,b,c]:=by
   match s,h with
   |[a,b,c],_=>exact ⟨a,b,c,rfl⟩
  have a0:at' [a,b,c] 0=some a:=rfl
  have a1:at' [a,b,c] 1=some b:=rfl
  have a2:at' [a,b,c] 2=some c:=rfl
  have e1:((a.toNat:Int)==120)=(a.toNat==120):=i_n a 120
  have e2:((a.toNat:Int)==88)=(a.toNat==88):=i_n a 88
  have e3:((b.toNat:Int)==109)=(b.toNat==109):=i_n b 109
  have e4:((b.toNat:Int)==77)=(b.toNat==77):=i_n b 77
  have e5:((c.toNat:Int)==108)=(c.toNat==108):=i_n c 108
  have e6:((c.toNat:Int)==76)=(c.toNat==76):=i_n c 76
  rw [show ((([a,b,c]:Str).length:Int)==3)=true from rfl]
  simp only [cond_true,a0,a1,a2,Option.bind_some,e1,e2,e3,e4,e5,e6,targetB]
  cases a.toNat==120<;>cases a.toNat==88<;>cases b.toNat==109<;>cases b.toNat==77<;>cases c.toNat==108<;>rfl
 ·rw [show ((s.length:Int)==3)=false by rw [beq_eq_false_iff_ne];omega]
  have:targetB s=false:=by
   unfold targetB
   split
   ·exact absurd rfl h
   ·rfl
  rw [this];rfl
def kindAt (l:List zf)(n:Int):Int:=match l[n.toNat]? with
 |some z=>z.Kind
 |none=>0
def blank1:Str→Bool
 |[]=>false
 |c::_=>isB c
def formedB (l:List zf)(n:Nat)(last:Int)(x:zf):Bool:=
 if x.Kind=1 then x.Text==[]&&(declaredB x.Decls&&namedB l n x)
 else bareB x&&(if x.Kind=2 then x.Local==[]&&(!(x.Text==[])&&(textB x.Text&&(decide (last<0)||kindAt l last != 2)))
  else if x.Kind=3 then x.Local==[]&&(textB x.Text&&(!contains x.Text [45,45]&& !(decide ((1:Nat)≤x.Text.length)&&(x.Text.drop (x.Text.length-1)==[45]))))
  else if x.Kind=4 then nameB x.Local&&(!targetB x.Local&&(textB x.Text&&(!contains x.Text [63,62]&& !blank1 x.Text)))
  else false)
theorem formed_eq (l:List zf)(n:Nat)(x:zf)(last:Int)(hn:l[n]? =some x)(hall: ∀ y∈l,okN y)(hp:ParOk l (n+1))(hla:last<(l.length:Int)):zaS l (n:Int) last=some (formedB l n last x):=by
 have hx:=hall x (List.mem_of_getElem? hn)
 unfold zaS formedB
 rw [QN,hn]
 simp only [Option.bind_some]
 by_cases k1:x.Kind=1
 ·rw [beq_iff_eq.2 k1,if_pos k1]
  simp only [cond_true]
  rw [declared_eq _ hx.2.2.2.2.1 hx.2.2.2.2.2.2.1,dnamed_eq l n x hn hall hp]
  simp only [Option.bind_some]
  cases x.Text==[]<;>cases declaredB x.Decls<;>rfl
 ·rw [beq_eq_false_iff_ne.2 k1,if_neg k1]
  simp only [cond_false,bare_eq,Option.bind_some]
  rw [dtext_eq _ hx.2.2.2.1,JJ _ _ (by have:=hx.2.2.2.1;omega),JJ _ _ (by have:=hx.2.2.2.1;omega),HasSuffix_eq _ _ hx.2.2.2.1,Is_eq x.Local (by have:=hx.2.1;omega),target_eq]
  simp only [Option.bind_some]
  have hbl:((bif (!(x.Text==[])) then (at' x.Text 0).bind fun v11=>(QE v11).bind fun v12=>some v12 else some false):Option Bool)=some (blank1 x.Text):=by
   cases x.Text with
   |nil=>rfl
   |cons c r=>
    have a0:at' (c::r) 0=some c:=rfl
    rw [show (!((c::r:Str)==[]))=true from rfl]
    simp only [cond_true,a0,Option.bind_some,Blank_eq];rfl
  rw [hbl]
  have hl:((bif decide (last<0) then some true else (at' l last).bind fun v6=>some (v6.Kind != 2)):Option Bool)=some (decide (last<0)||kindAt l last != 2):=by
   by_cases h0:last<0
   ·rw [show decide (last<0)=true by rw [decide_eq_true_eq];exact h0];rfl
   ·rw [show decide (last<0)=false by rw [decide_eq_false_iff_not];exact h0]
    obtain ⟨m,rfl⟩: ∃ m:Nat,last=(m:Int):=⟨last.toNat,by omega⟩
    have hm:m<l.length:=by omega
    simp only [cond_false]
    rw [zZ hm]
    unfold kindAt
    rw [Int.toNat_natCast,List.getElem?_eq_getElem hm];rfl
  rw [hl]
  by_cases k2:x.Kind=2
  ·rw [beq_iff_eq.2 k2,if_pos k2]
   cases bareB x<;>cases x.Local==[]<;>cases x.Text==[]<;>cases textB x.Text<;>rfl
  ·rw [beq_eq_false_iff_ne.2 k2,if_neg k2]
   by_cases k3:x.Kind=3
   ·rw [beq_iff_eq.2 k3,if_pos k3]
    cases bareB x<;>cases x.Local==[]<;>cases textB x.Text<;>cases contains x.Text [45,45]<;>rfl
   ·rw [beq_eq_false_iff_ne.2 k3,if_neg k3]
    by_cases k4:x.Kind=4
    ·rw [beq_iff_eq.2 k4,if_pos k4]
     cases bareB x<;>cases nameB x.Local<;>cases targetB x.Local<;>cases textB x.Text<;>cases contains x.Text [63,62]<;>rfl
    ·rw [beq_eq_false_iff_ne.2 k4,if_neg k4]
     cases bareB x<;>rfl
def standsF (l:List zf)(px:Int):Nat→Int→Bool
 |0,_=>false
 |k+1,y=>if y<0 then false else match l[y.toNat]? with
  |none=>false
  |some z=>if y=px then z.Kind==0||z.Kind==1 else standsF l px k z.Parent
theorem standsF_loop (l:List zf)(n:Nat)(x r:zf)(hx:l[n]? =some x)(h0:l[0]? =some r)(hr:r.Parent= -1)(hp:ParOk l n): ∀ (k y:Nat),y+1<k→y<n→((iter (ZZ l (n:Int)) (y:Int)).bind (Sum.elim (fun (q6:Bool)=>some q6) (fun (q7:Unit)=>some false)))=some (standsF l x.Parent k (y:Int)):=by
 have hn:n<l.length:=(List.getElem?_eq_some_iff.1 hx).1
 have hat:at' l (n:Int)=some x:=by rw [QN,hx]
 intro k
 induction k with
 |zero=>intro y h;omega
 |succ k ih=>
  intro y h hy
  have hyl:y<l.length:=by omega
  have e:decide ((y:Int)≥0)=true:=by simp
  have hay:at' l (y:Int)=some l[y]:=zZ hyl
  unfold standsF
  rw [if_neg (by omega),Int.toNat_natCast,List.getElem?_eq_getElem hyl]
  dsimp only
  by_cases hq:(y:Int)=x.Parent
  ·rw [if_pos hq,zi (q:= .inl (l[y].Kind==0||l[y].Kind==1)) (by
    unfold ZZ
    simp only [e,cond_true,hat,Option.bind_some]
    rw [beq_iff_eq.2 hq]
    simp only [cond_true,hay,Option.bind_some]
    cases l[y].Kind==0<;>rfl)];rfl
  ·rw [if_neg hq,zw (s':=l[y].Parent) (by
    unfold ZZ
    simp only [e,cond_true,hat,Option.bind_some]
    rw [beq_eq_false_iff_ne.2 hq]
    simp only [cond_false,hay,Option.bind_some])]
   by_cases y0:y=0
   ·subst y0
    have:l[0]=r:=by rw [List.getElem?_eq_getElem hyl] at h0;exact Option.some.inj h0
    rw [this,hr,zi (q:= .inr ()) rfl]
    cases k with
    |zero=>omega
    |succ k=>rfl
   ·obtain ⟨p0,p1⟩:=hp y l[y] (by omega) hy (List.getElem?_eq_getElem hyl)
    have hpn:((l[y].Parent.toNat:Nat):Int)=l[y].Parent:=by omega
    have:=ih l[y].Parent.toNat (by omega) (by omega)
    rw [hpn] at this
    exact this
theorem stands_eq2 (l:List zf)(n:Nat)(x r:zf)(hx:l[n]? =some x)(h0:l[0]? =some r)(hr:r.Parent= -1)(hp:ParOk l n)(h1:1≤n)(hn:n<4611686018427387904):zaR l (n:Int)=some (standsF l x.Parent (n+1) ((n-1:Nat):Int)):=by
 unfold zaR
 rw [show w64 ((n:Int)-1)=((n-1:Nat):Int) by rw [qI (by omega)];omega]
 exact standsF_loop l n x r hx h0 hr hp (n+1) (n-1) (by omega) (by omega)
def chkF (l:List zf):Nat→Nat→Int→List Int→Option Int
 |0,_,_,_=>none
 |k+1,n,t,last=>match l[n]? with
  |none=>some t
  |some x=>if standsF l x.Parent (n+1) ((n-1:Nat):Int)&&(formedB l n (gz last x.Parent.toNat) x&&(!(x.Parent==0)|| !(x.Kind==2))) then
   (if x.Parent=0∧x.Kind=1 then (if t>0 then none else chkF l k (n+1) (n:Int) (last.set x.Parent.toNat (n:Int))) else chkF l k (n+1) t (last.set x.Parent.toNat (n:Int)))
   else none
def ansC:Option Int→Unit⊕Int
 |none=> .inl ()
 |some q=> .inr q
theorem chk_loop (l:List zf)(r:zf)(h0:l[0]? =some r)(hr:r.Parent= -1)(hall: ∀ y∈l,okN y)(hlen:l.length<4611686018427387904): ∀ (k n:Nat) (t:Int) (last:List Int),l.length-n<k→1≤n→n≤l.length→ParOk l n→last.length=l.length→(∀ v∈last,v<(n:Int))→
 iter (zE l) (t,((n:Int),last))=some (ansC (chkF l k n t last)):=by
 intro k
 induction k with
 |zero=>intro n t last h1;omega
 |succ k ih=>
  intro n t last h1 h2 h3 hp h5 h6
  unfold chkF
  by_cases hn:n<l.length
  ·have e:decide ((n:Int)<(l.length:Int))=true:=by rw [decide_eq_true_eq];omega
   have hx:l[n]? =some l[n]:=List.getElem?_eq_getElem hn
   rw [hx]
   dsimp only
   generalize l[n]=x at hx
   have hat:at' l (n:Int)=some x:=by rw [QN,hx]
   have s1:=stands_eq2 l n x r hx h0 hr hp h2 (by omega)
   obtain ⟨v,s2,s3⟩:=stands_some l n x r hx h0 hr hp h2 (by omega)
   have hv:v=standsF l x.Parent (n+1) ((n-1:Nat):Int):=by rw [s1] at s2;exact (Option.some.inj s2).symm
   rw [←hv] at s1 ⊢
   cases hvc:v with
   |false=>
    rw [hvc] at s1
    simp only [Bool.false_and]
    refine zi ?_;unfold zE
    simp only [e,cond_true,s1,Option.bind_some,Bool.not_false];rfl
   |true=>
    rw [hvc] at s1
    obtain ⟨p0,p1,p2,p3⟩:=s3 hvc
    have hpn:((x.Parent.toNat:Nat):Int)=x.Parent:=by omega
    have hpl:x.Parent.toNat<last.length:=by omega
    have hla:at' last x.Parent=some (gz last x.Parent.toNat):=by have:=zZ hpl;rw [hpn] at this;rw [this,gz_get hpl]
    have hlv:gz last x.Parent.toNat<(n:Int):=by rw [gz_get hpl];exact h6 _ (List.getElem_mem hpl)
    have hp1:ParOk l (n+1):=fun m y a b c=>by
     by_cases hm:m=n
     ·subst hm;rw [hx] at c;cases c;exact ⟨p0,p1⟩
     ·exact hp m y a (by omega) c
    have f1:=formed_eq l n x (gz last x.Parent.toNat) hx hall hp1 (by omega)
    have hun:doc_under x=some (!(x.Parent==0)|| !(x.Kind==2)):=by
     unfold doc_under
     by_cases hz:x.Parent=0
     ·rw [hz];rfl
     ·rw [show (x.Parent != 0)=true by simpa using hz,beq_eq_false_iff_ne.2 hz];rfl
    simp only [Bool.true_and]
    cases hf:formedB l n (gz last x.Parent.toNat) x with
    |false=>
     rw [hf] at f1
     refine zi ?_;unfold zE
     simp only [e,cond_true,s1,Option.bind_some,Bool.not_true,cond_false,hat,hla,f1,Bool.not_false];rfl
    |true=>
     rw [hf] at f1
     simp only [Bool.true_and]
     cases hu:(!(x.Parent==0)|| !(x.Kind==2)) with
     |false=>
      rw [hu] at hun
      refine zi ?_;unfold zE
      simp only [e,cond_true,s1,Option.bind_some,Bool.not_true,cond_false,hat,hla,f1,hun,Bool.not_false];rfl
     |true=>
      rw [hu] at hun
      rw [if_pos rfl]
      have hput:put last x.Parent (n:Int)=some (last.set x.Parent.toNat (n:Int)):=by have:=put_of hpl (n:Int);rwa [hpn] at this
      have h5':(last.set x.Parent.toNat (n:Int)).length=l.length:=by rw [List.length_set];exact h5
      have h6': ∀ v∈last.set x.Parent.toNat (n:Int),v<((n+1:Nat):Int):=fun v hv=>by
       rcases List.mem_or_eq_of_mem_set hv with h|h
       ·have:=h6 v h;omega
       ·omega
      have hw:w64 ((n:Int)+1)=((n+1:Nat):Int):=zN (by omega)
      by_cases hz:x.Parent=0
      ·by_cases hk:x.Kind=1
       ·rw [if_pos ⟨hz,hk⟩]
        by_cases ht:t>0
        ·rw [if_pos ht]
         refine zi ?_;unfold zE
         simp only [e,cond_true,s1,Option.bind_some,Bool.not_true,cond_false,hat,hla,f1,hun]
         rw [beq_iff_eq.2 hz,beq_iff_eq.2 hk,show decide (t>0)=true by rw [decide_eq_true_eq];exact ht];rfl
        ·rw [if_neg ht,←ih (n+1) (n:Int) _ (by omega) (by omega) (by omega) hp1 h5' h6']
         refine zw ?_;unfold zE
         simp only [e,cond_true,s1,Option.bind_some,Bool.not_true,cond_false,hat,hla,f1,hun]
         rw [beq_iff_eq.2 hz,beq_iff_eq.2 hk,show decide (t>0)=false by rw [decide_eq_false_iff_not];exact ht]
         simp only [cond_true,cond_false,hput,Option.bind_some,hw]
       ·rw [if_neg (fun h=>hk h.2),←ih (n+1) t _ (by omega) (by omega) (by omega) hp1 h5' h6']
        refine zw ?_;unfold zE
        simp only [e,cond_true,s1,Option.bind_some,Bool.not_true,cond_false,hat,hla,f1,hun]
        rw [beq_iff_eq.2 hz,beq_eq_false_iff_ne.2 hk]
        simp only [cond_true,cond_false,hput,Option.bind_some,hw]
      ·rw [if_neg (fun h=>hz h.1),←ih (n+1) t _ (by omega) (by omega) (by omega) hp1 h5' h6']
       refine zw ?_;unfold zE
       simp only [e,cond_true,s1,Option.bind_some,Bool.not_true,cond_false,hat,hla,f1,hun]
       rw [beq_eq_false_iff_ne.2 hz]
       simp only [cond_false,hput,Option.bind_some,hw]
  ·obtain rfl:n=l.length:=by omega
   rw [List.getElem?_eq_none (Nat.le_refl _)]
   refine zi ?_;unfold zE
   have e:decide ((l.length:Int)<(l.length:Int))=false:=by simp
   simp only [e,cond_false];rfl
def checkL:List zf→Int×Bool
 |[]=>(0,false)
 |r::l'=>bif rootB r then headV (ansC (chkF (r::l') (l'.length+2) 1 0 (List.replicate (l'.length+1) (-1)))) else (0,false)
theorem all_replicate: ∀ (n:Nat) (d:List Int),d.length=n→(∀ v∈d,v= -1)→d=List.replicate n (-1)
 |0,d,h,_=>List.length_eq_zero_iff.1 h
 |n+1,d,h,hv=>by
  cases d with
  |nil=>cases h
  |cons a d=>
   rw [List.replicate_succ,hv a (by simp),←all_replicate n d (by simpa using h) (fun v hv'=>hv v (by simp [hv']))]
theorem check_eq (l:List zf)(hall: ∀ y∈l,okN y)(hlen:l.length≤1073741824):zaz l=some (checkL l):=by
 cases l with
 |nil=>rfl
 |cons r l'=>
  show _=some (bif rootB r then headV (ansC (chkF (r::l') (l'.length+2) 1 0 (List.replicate (l'.length+1) (-1)))) else (0,false))
  cases hr:rootB r with
  |false=>rw [head_false r l' hr,cond_false]
  |true=>
   have hr':=hr
   simp only [rootB,Bool.and_eq_true,beq_iff_eq] at hr
   obtain ⟨k0,k1,k2,k3,k4⟩:=hr;obtain ⟨v8,hv8,hl8⟩: ∃ v8:List Int,mk 8 (((r::l':List zf).length:Nat):Int) 0=some v8∧v8.length=(r::l').length:=⟨_,mk_of 0 (by omega),by rw [List.length_replicate];omega⟩;obtain ⟨d',f1,f2,f3⟩:=fill_loop v8 (by omega) v8.length 0 v8 (by omega) (by omega) rfl (by simp)
   have hd':=all_replicate (l'.length+1) d' (by rw [f2,hl8];rfl) f3
   have c:=chk_loop (r::l') r rfl k1 hall (by omega) (l'.length+2) 1 0 d' (by simp) (Nat.le_refl _) (by simp) (fun m x a b=>by omega) (by rw [f2,hl8]) (fun v hv=>by rw [f3 v hv];decide)
   rw [head_true r l' hr' v8 d' _ hv8 f1 c,cond_true,hd']
def wiF (l:List zf):Nat→Nat→List Int→Bool
 |0,_,_=>false
 |k+1,i,dp=>match l[i]? with
  |none=>true
  |some x=>if i=0 then (if gz dp 0>64∨x.Decls.length+x.Attrs.length>64 then false else wiF l k (i+1) dp)
   else (if gz dp x.Parent.toNat+1>64∨x.Decls.length+x.Attrs.length>64 then false else wiF l k (i+1) (dp.set i (gz dp x.Parent.toNat+1)))
def ansW:Bool→Unit⊕Unit
 |true=> .inr ()
 |false=> .inl ()
theorem wi_loop (l:List zf)(hlen:l.length≤4000)(hall: ∀ y∈l,okN y)(hp:ParOk l l.length): ∀ (k i:Nat) (dp:List Int),l.length-i<k→i≤l.length→dp.length=l.length→(∀ v∈dp,0≤v∧v≤(i:Int))→iter (zK l) ((i:Int),dp)=some (ansW (wiF l k i dp)):=by
 intro k
 induction k with
 |zero=>intro i dp h;omega
 |succ k ih=>
  intro i dp h1 h2 h3 h4
  unfold wiF
  by_cases hi:i<l.length
  ·have e:decide ((i:Int)<(l.length:Int))=true:=by rw [decide_eq_true_eq];omega
   have hid:i<dp.length:=by omega
   have hx:l[i]? =some l[i]:=List.getElem?_eq_getElem hi
   have hat:at' l (i:Int)=some l[i]:=zZ hi
   have hok:=hall l[i] (List.getElem_mem hi)
   rw [hx]
   dsimp only
   generalize l[i]=x at hx hat hok
   have hsz:w64 ((x.Decls.length:Int)+(x.Attrs.length:Int))=((x.Decls.length+x.Attrs.length:Nat):Int):=by
    have:=hok.2.2.2.2.1;have:=hok.2.2.2.2.2.1
    rw [qI (by omega)];omega
   have hw:w64 ((i:Int)+1)=((i+1:Nat):Int):=zN (by omega)
   have adi:at' dp (i:Int)=some (gz dp i):=by rw [zZ hid,gz_get hid]
   by_cases h0:i=0
   ·subst h0
    have e0:decide (((0:Nat):Int)>0)=false:=rfl
    rw [if_pos rfl]
    have st:zK l (((0:Nat):Int),dp)=(bif decide (gz dp 0>64) then some (.inr (.inl ())) else (bif decide (((x.Decls.length+x.Attrs.length:Nat):Int)>64) then some (.inr (.inl ())) else some (.inl (((0+1:Nat):Int),dp)))):=by
     unfold zK
     simp only [e,cond_true,hat,Option.bind_some,e0,cond_false,adi,hsz,hw]
    by_cases c1:gz dp 0>64
    ·rw [if_pos (Or.inl c1)]
     rw [show decide (gz dp 0>64)=true by rw [decide_eq_true_eq];exact c1] at st
     exact zi st
    ·rw [show decide (gz dp 0>64)=false by rw [decide_eq_false_iff_not];exact c1] at st
     by_cases c2:x.Decls.length+x.Attrs.length>64
     ·rw [if_pos (Or.inr c2)]
      rw [show decide (((x.Decls.length+x.Attrs.length:Nat):Int)>64)=true by rw [decide_eq_true_eq];omega] at st
      exact zi st
     ·rw [if_neg (by omega)]
      rw [show decide (((x.Decls.length+x.Attrs.length:Nat):Int)>64)=false by rw [decide_eq_false_iff_not];omega] at st
      rw [zw st]
      exact ih (0+1) dp (by omega) (by omega) h3 (fun v hv=>by have:=h4 v hv;omega)
   ·have e0:decide ((i:Int)>0)=true:=by rw [decide_eq_true_eq];omega
    obtain ⟨p0,p1⟩:=hp i x (by omega) hi hx
    have hpl:x.Parent.toNat<dp.length:=by omega
    have hpn:((x.Parent.toNat:Nat):Int)=x.Parent:=by omega
    have adp:at' dp x.Parent=some (gz dp x.Parent.toNat):=by have:=zZ hpl;rw [hpn] at this;rw [this,gz_get hpl]
    have hv0:0≤gz dp x.Parent.toNat∧gz dp x.Parent.toNat≤(i:Int):=by rw [gz_get hpl];exact h4 _ (List.getElem_mem hpl)
    generalize gz dp x.Parent.toNat=g at adp hv0 ⊢
    have hwp:w64 (g+1)=g+1:=qI (by omega)
    have hput:put dp (i:Int) (g+1)=some (dp.set i (g+1)):=put_of hid _
    have ads:at' (dp.set i (g+1)) (i:Int)=some (g+1):=by
     have:=zZ (l:=dp.set i (g+1)) (i:=i) (by rw [List.length_set];exact hid)
     rw [this,List.getElem_set_self]
    rw [if_neg h0]
    have st:zK l ((i:Int),dp)=(bif decide (g+1>64) then some (.inr (.inl ())) else (bif decide (((x.Decls.length+x.Attrs.length:Nat):Int)>64) then some (.inr (.inl ())) else some (.inl (((i+1:Nat):Int),dp.set i (g+1))))):=by
     unfold zK
     simp only [e,cond_true,hat,Option.bind_some,e0,adp,adi,hwp,hput,ads,hsz,hw]
    by_cases c1:g+1>64
    ·rw [if_pos (Or.inl c1)]
     rw [show decide (g+1>64)=true by rw [decide_eq_true_eq];exact c1] at st
     exact zi st
    ·rw [show decide (g+1>64)=false by rw [decide_eq_false_iff_not];exact c1] at st
     by_cases c2:x.Decls.length+x.Attrs.length>64
     ·rw [if_pos (Or.inr c2)]
      rw [show decide (((x.Decls.length+x.Attrs.length:Nat):Int)>64)=true by rw [decide_eq_true_eq];omega] at st
      exact zi st
     ·rw [if_neg (by omega)]
      rw [show decide (((x.Decls.length+x.Attrs.length:Nat):Int)>64)=false by rw [decide_eq_false_iff_not];omega] at st
      rw [zw st]
      refine ih (i+1) _ (by omega) (by omega) (by rw [List.length_set];exact h3) (fun v hv=> ?_)
      rcases List.mem_or_eq_of_mem_set hv with h|h
      ·have:=h4 v h;omega
      ·omega
  ·rw [List.getElem?_eq_none (by omega)]
   refine zi ?_;unfold zK
   have e:decide ((i:Int)<(l.length:Int))=false:=by rw [decide_eq_false_iff_not];omega
   simp only [e,cond_false];rfl
def withinL (l:List zf):Bool:=if l.length>4000 then false else wiF l (l.length+1) 0 (List.replicate l.length 0)
theorem within_eq (l:List zf)(hall: ∀ y∈l,okN y)(hp:ParOk l l.length):zaT l=some (withinL l):=by
 unfold zaT withinL
 by_cases h:l.length>4000
 ·rw [show decide ((l.length:Int)>4000)=true by rw [decide_eq_true_eq];omega,if_pos h];rfl
 ·rw [show decide ((l.length:Int)>4000)=false by rw [decide_eq_false_iff_not];omega,if_neg h]
  simp only [cond_false]
  have hmk:mk 8 (l.length:Int) (0:Int)=some (List.replicate l.length 0):=by rw [mk_of 0 (by omega),Int.toNat_natCast]
  rw [hmk,Option.bind_some]
  have k1:=wi_loop l (by omega) hall hp (l.length+1) 0 (List.replicate l.length 0) (by omega) (by omega) (by simp) (fun v hv=>by rw [(List.mem_replicate.1 hv).2];decide)
  rw [show iter (zK l) (0,List.replicate l.length 0)=_ from k1,Option.bind_some]
  cases wiF l (l.length+1) 0 (List.replicate l.length 0)<;>rfl
def endF (l:List zf):Nat→List Int→List Int
 |0,en=>en
 |k+1,en=>match l[k]? with
  |none=>en
  |some x=>if x.Parent≥0 then endF l k ((en.set k (mx (gz en k) ((k:Int)+1))).set x.Parent.toNat (mx (gz (en.set k (mx (gz en k) ((k:Int)+1))) x.Parent.toNat) (gz (en.set k (mx (gz en k) ((k:Int)+1))) k))) else endF l k (en.set k (mx (gz en k) ((k:Int)+1)))
theorem endF_loop (l:List zf){t:Int}(hL:ListOk l t)(hlen:l.length≤1073741824): ∀ (k:Nat) (en:List Int),k≤l.length→en.length=l.length→iter (za3 l) ((k:Int)-1,en)=some (endF l k en):=by
 intro k
 induction k with
 |zero=>intro en h1 h2;exact zi rfl
 |succ k ih=>
  intro en h1 h2
  rw [show (((k+1:Nat):Int)-1)=(k:Int) by omega]
  have hk:k<l.length:=by omega
  have hke:k<en.length:=by omega
  have e:decide ((k:Int)≥0)=true:=by simp
  have hx:l[k]? =some l[k]:=List.getElem?_eq_getElem hk
  have hat:at' l (k:Int)=some l[k]:=zZ hk
  unfold endF
  rw [hx]
  dsimp only
  generalize l[k]=x at hx hat
  have ake:at' en (k:Int)=some (gz en k):=by rw [zZ hke,gz_get hke]
  have pke: ∀ v,put en (k:Int) v=some (en.set k v):=fun v=>put_of hke v
  have hwk:w64 ((k:Int)-1)=(k:Int)-1:=qI (by omega)
  have hwk1:w64 ((k:Int)+1)=(k:Int)+1:=qI (by omega)
  by_cases hpar:x.Parent≥0
  ·have hkp:0<k:=by
    rcases Nat.eq_zero_or_pos k with h|h
    ·subst h
     obtain ⟨r',r1,_,r2,_⟩:=hL.root
     rw [r1] at hx;cases hx;omega
    ·exact h
   obtain ⟨p0,p1⟩:=(hL.node k x hkp hk hx).par
   have hpn:((x.Parent.toNat:Nat):Int)=x.Parent:=by omega
   have hEl:(en.set k (mx (gz en k) ((k:Int)+1))).length=l.length:=by rw [List.length_set];exact h2
   rw [if_pos hpar,←ih _ (by omega) (by rw [List.length_set];exact hEl)]
   refine zw ?_;unfold za3
   simp only [e,cond_true,ake,Option.bind_some,pke,hat,hwk1]
   rw [show decide (x.Parent≥0)=true by rw [decide_eq_true_eq];exact hpar]
   generalize en.set k (mx (gz en k) ((k:Int)+1))=E at hEl ⊢
   have hpl:x.Parent.toNat<E.length:=by omega
   have hkl:k<E.length:=by omega
   have a1:at' E x.Parent=some (gz E x.Parent.toNat):=by have:=zZ hpl;rw [hpn] at this;rw [this,gz_get hpl]
   have a2:at' E (k:Int)=some (gz E k):=by rw [zZ hkl,gz_get hkl]
   have p1': ∀ v,put E x.Parent v=some (E.set x.Parent.toNat v):=fun v=>by have:=put_of hpl v;rwa [hpn] at this
   simp only [cond_true,a1,a2,p1',Option.bind_some,hwk]
  ·rw [if_neg hpar,←ih _ (by omega) (by rw [List.length_set];exact h2)]
   refine zw ?_;unfold za3
   simp only [e,cond_true,ake,Option.bind_some,pke,hat,hwk1]
   rw [show decide (x.Parent≥0)=false by rw [decide_eq_false_iff_not];exact hpar]
   simp only [cond_false,hwk]
def ofL (l:List zf):Option qg×Int:=bif !(checkL l).2 then (none,2) else bif !withinL l then (none,3) else (some (qg.mk l (endF l l.length (List.replicate l.length 0)) (checkL l).1),0)
theorem Of_eq (l:List zf)(hall: ∀ y∈l,okN y)(hlen:l.length≤1073741824):doc_Of l=some (ofL l):=by
 obtain ⟨v,c1,c2⟩:=check_some l hall hlen
 have c3:=check_eq l hall hlen
 have hv:v=checkL l:=by rw [c1] at c3;exact Option.some.inj c3
 unfold doc_Of ofL
 rw [c3,Option.bind_some]
 cases h:(checkL l).2 with
 |false=>rfl
 |true=>
  have hL:=c2 (by rw [hv];exact h)
  rw [hv] at hL
  have hp:ParOk l l.length:=fun m x a b c=>(hL.node m x a b c).par
  simp only [Bool.not_true,cond_false]
  rw [within_eq l hall hp,Option.bind_some]
  cases hw:withinL l with
  |false=>rfl
  |true=>
   have hl1:1≤l.length:=by
    obtain ⟨r,h0,_⟩:=hL.root
    have:=(List.getElem?_eq_some_iff.1 h0).1;omega
   have hmk:mk 8 (l.length:Int) (0:Int)=some (List.replicate l.length 0):=by rw [mk_of 0 (by omega),Int.toNat_natCast]
   have hc:=copy_loop l hall hlen l.length 0 (by omega) (by omega)
   rw [List.take_zero] at hc
   simp only [Bool.not_true,cond_false]
   rw [hmk,Option.bind_some,show iter (za1 l) (0,[])=some l from hc,Option.bind_some,qI (by omega),endF_loop l hL hlen l.length _ (Nat.le_refl _) (by simp),Option.bind_some]
def rootN:zf:=zf.mk 0 (-1) [] [] [] [] [] []
def parseL (b:Str):Option qg×Int:=
 if b.length>65536 then (none,3) else bif !textB b then (none,2) else bif !(declL (lines b)).1 then (none,2) else
  match runL ((declL (lines b)).2.length+1) (declL (lines b)).2 true [rootN] [] [] with
  |none=>(none,2)
  |some q=>if q.2.2.2.1=[] then ofL q.2.2.1 else (none,2)
theorem Parse_eq (b:Str):JI b=some (parseL b):=by
 unfold JI parseL
 by_cases hb:b.length>65536
 ·rw [show decide ((b.length:Int)>65536)=true by rw [decide_eq_true_eq];omega,if_pos hb];rfl
 ·rw [show decide ((b.length:Int)>65536)=false by rw [decide_eq_false_iff_not];omega,Text_eq b (by omega),if_neg hb]
  simp only [cond_false,Option.bind_some]
  cases ht:textB b with
  |false=>rfl
  |true=>
   have hl:=lines_len b
   rw [Lines_eq b (by omega)]
   simp only [Bool.not_true,cond_false,Option.bind_some]
   obtain ⟨v3,d1,d2,d3⟩:=declaration_eq true false [(zf.mk 0 (-1) [] [] [] [] [] [])] [] [] (lines b) (by omega) (lines_text ht)
   rw [d1,←d2]
   simp only [Option.bind_some]
   cases h3:v3.1 with
   |false=>rfl
   |true=>
    obtain ⟨l3,t3⟩:=d3 h3
    have hI:Inv 65536 v3.2 [(zf.mk 0 (-1) [] [] [] [] [] [])] [] []:=⟨t3,by simp;omega,by simp,by simp,(fun o ho=>by cases ho),(fun y hy=>by
     obtain rfl:=List.mem_singleton.1 hy
     exact ⟨Nat.zero_le _,Nat.zero_le _,Nat.zero_le _,Nat.zero_le _,Nat.zero_le _,Nat.zero_le _,by simp,by simp⟩),by simp;omega⟩
    obtain ⟨r1,r2⟩:=run_loop (N:=65536) (by omega) (v3.2.length+1) v3.2 true [(zf.mk 0 (-1) [] [] [] [] [] [])] [] [] (by omega) hI
    simp only [Bool.not_true,cond_false]
    rw [r1]
    show _=some (match runL (v3.2.length+1) v3.2 true [(zf.mk 0 (-1) [] [] [] [] [] [])] [] [] with|none=>(none,2)|some q=>if q.2.2.2.1=[] then ofL q.2.2.1 else (none,2))
    cases hq:runL (v3.2.length+1) v3.2 true [(zf.mk 0 (-1) [] [] [] [] [] [])] [] [] with
    |none=>rfl
    |some q=>
     obtain ⟨nb',l',p',x',rfl,hI'⟩:=r2 q hq
     simp only [Option.bind_some,Sum.elim_inr]
     by_cases hp:p'=[]
     ·subst hp
      rw [if_pos rfl]
      simp only [List.length_nil,show decide ((((0:Nat):Int))>0)=false from rfl,cond_false]
      have hl':=hI'.hl
      rw [Of_eq l' hI'.hn (by simp at hl';omega)];rfl
     ·have:0<p'.length:=List.length_pos_iff.2 hp
      rw [if_neg hp,show decide ((p'.length:Int)>0)=true by rw [decide_eq_true_eq];omega];rfl
def dA:qg:=qg.mk [rootN,zf.mk 1 0 [] [97] [] [] [] [zP.mk [] [98] [] [49]]] [2,2] 1
theorem parseA:parseL [60,97,32,98,61,39,49,39,47,62]=(some dA,0):=by kernel_rfl
section
variable {d:qg} (hd:DocOk d)
theorem Len_eq (d:qg):Zt (some d)=some (d.l.length:Int):=rfl
theorem has_eq (d:qg)(n:Int):Z8 (some d) n=some (decide (0≤n∧n<(d.l.length:Int))):=by
 unfold Z8
 rw [Len_eq]
 by_cases h:n≥0
 ·rw [show decide (n≥0)=true by rw [decide_eq_true_eq];exact h]
  simp only [cond_true,Option.bind_some]
  congr 1
  rw [Bool.eq_iff_iff];simp only [decide_eq_true_eq];omega
 ·rw [show decide (n≥0)=false by rw [decide_eq_false_iff_not];exact h]
  simp only [cond_false]
  congr 1
  rw [Bool.eq_iff_iff];simp only [decide_eq_true_eq];simp;omega
theorem has_in {d:qg}{m:Nat}(h:m<d.l.length):Z8 (some d) (m:Int)=some true:=by
 rw [has_eq];congr 1;rw [decide_eq_true_eq];omega
include hd in
theorem Node_in {m:Nat}{x:zf}(hx:d.l[m]? =some x):qw (some d) (m:Int)=some x:=by
 unfold qw
 have hm:=(List.getElem?_eq_some_iff.1 hx).1
 rw [has_in hm]
 simp only [Option.bind_some,Bool.not_true,cond_false]
 rw [QN,hx]
 simp only [Option.bind_some]
 rw [cloneD_eq x (hd.size x (List.mem_of_getElem? hx))];rfl
def endN (d:qg)(m:Nat):Nat:=(gz d.end_ m).toNat
include hd in
theorem JC {m:Nat}(hm:m<d.l.length):d.end_[m]? =some (endN d m:Int)∧m<endN d m∧endN d m≤d.l.length∧ ∀ i,m≤i→i<d.l.length→(i<endN d m↔Anc d.l i m):=by
 obtain ⟨e,h1,h2,h3,h4⟩:=hd.ends.2 m hm
 have:endN d m=e:=by unfold endN gz;rw [h1];simp
 rw [this]
 exact ⟨h1,h2,h3,h4⟩
include hd in
theorem End_in {m:Nat}(hm:m<d.l.length):ZA (some d) (m:Int)=some (endN d m:Int):=by
 unfold ZA
 rw [has_in hm]
 simp only [Option.bind_some,Bool.not_true,cond_false]
 rw [QN,(JC hd hm).1];rfl
include hd in
theorem end_nest {n m:Nat}(hn:n<d.l.length)(h1:n≤m)(h2:m<endN d n):endN d m≤endN d n:=by
 obtain ⟨_,a1,a2,a3⟩:=JC hd hn
 have hm:m<d.l.length:=by omega
 obtain ⟨_,b1,b2,b3⟩:=JC hd hm
 have k1:=(b3 (endN d m-1) (by omega) (by omega)).1 (by omega)
 have k2:=(a3 m h1 hm).1 h2
 have:=(a3 (endN d m-1) (by omega) (by omega)).2 (k1.trans k2)
 omega
include hd in
def kidsF (d:qg)(e:Nat):Nat→Nat→List Int
 |0,_=>[]
 |f+1,m=>if m<e then (m:Int)::kidsF d e f (endN d m) else []
theorem kidsF_len (d:qg)(e:Nat): ∀ (f m:Nat),(kidsF d e f m).length≤f
 |0,_=>Nat.le_refl _
 |f+1,m=>by
  unfold kidsF
  split
  ·rw [List.length_cons];have:=kidsF_len d e f (endN d m);omega
  ·exact Nat.zero_le _
include hd in
theorem kids_loop {n:Nat}(hn:n<d.l.length): ∀ (f m:Nat) (out:List Int),endN d n-m<f→n<m→out.length≤m→iter (QY (some d) (n:Int)) ((m:Int),out)=some (out++kidsF d (endN d n) f m):=by
 obtain ⟨ha,a1,a2,a3⟩:=JC hd hn
 have hmany:=hd.many
 intro f
 induction f with
 |zero=>intro m out h;omega
 |succ f ih=>
  intro m out h1 h2 h3
  have an:at' d.end_ (n:Int)=some (endN d n:Int):=by rw [QN,ha]
  unfold kidsF
  by_cases hm:m<endN d n
  ·have hml:m<d.l.length:=by omega
   obtain ⟨hb,b1,b2,b3⟩:=JC hd hml
   have am:at' d.end_ (m:Int)=some (endN d m:Int):=by rw [QN,hb]
   have k:=ih (endN d m) (out++[(m:Int)]) (by omega) (by omega) (by simp;omega)
   rw [if_pos hm,show out++(m:Int)::kidsF d (endN d n) f (endN d m)=out++[(m:Int)]++kidsF d (endN d n) f (endN d m) by simp,←k]
   refine zw ?_;unfold QY
   simp only [Option.bind_some,an]
   rw [show decide ((m:Int)<(endN d n:Int))=true by rw [decide_eq_true_eq];omega]
   simp only [cond_true]
   rw [QJ (by simp;omega)]
   simp only [Option.bind_some,am]
  ·rw [if_neg hm,List.append_nil]
   refine zi ?_;unfold QY
   simp only [Option.bind_some,an]
   rw [show decide ((m:Int)<(endN d n:Int))=false by rw [decide_eq_false_iff_not];omega]
   simp only [cond_false]
include hd in
theorem Kids_in {n:Nat}(hn:n<d.l.length):Qz (some d) (n:Int)=some (kidsF d (endN d n) (d.l.length+1) (n+1)):=by
 have hmany:=hd.many
 have a2:=(JC hd hn).2.2.1
 unfold Qz
 rw [has_in hn]
 simp only [Option.bind_some,Bool.not_true,cond_false]
 rw [zN (by omega),kids_loop hd hn (d.l.length+1) (n+1) [] (by omega) (by omega) (by simp)]
 simp
theorem HasSelf {d:qg}{n:Nat}(hn:n<d.l.length):QX (some d) (zk.mk (n:Int) 0 0)=some true:=by
 unfold QX
 rw [Len_eq]
 simp only [Option.bind_some]
 rw [show decide ((n:Int)<0)=false by rw [decide_eq_false_iff_not];omega,show decide ((n:Int)≥(d.l.length:Int))=false by rw [decide_eq_false_iff_not];omega];rfl
end
def pt (n:Int):zk:=zk.mk n 0 0
section
variable {d:qg} (hd:DocOk d)
include hd in
theorem parOk:ParOk d.l d.l.length:=fun m x a b c=>(hd.list.node m x a b c).par
include hd in
theorem root_par: ∀ r,d.l[0]? =some r→r.Parent= -1:=fun r hr=>by
 obtain ⟨r',r1,_,r2,_⟩:=hd.list.root
 rw [r1] at hr;cases hr;exact r2
include hd in
theorem par_lt {m:Nat}{x:zf}(hx:d.l[m]? =some x): -1≤x.Parent∧x.Parent<(m:Int)∧(0<m→0≤x.Parent):=by
 have hm:=(List.getElem?_eq_some_iff.1 hx).1
 by_cases h0:m=0
 ·subst h0;have:=root_par hd x hx;omega
 ·have:=parOk hd m x (by omega) hm hx;omega
def upN (l:List zf):Nat→Int→List Int
 |0,_=>[]
 |k+1,p=>if 0≤p then p::(match l[p.toNat]? with
  |some x=>upN l k x.Parent
  |none=>[]) else []
include hd in
theorem upw_loop: ∀ (k:Nat) (p:Int) (out:List Int),p+1≤(k:Int)→ -1≤p→p<(d.l.length:Int)→(out.length:Int)+p+1≤(d.l.length:Int)→iter (Jb (some d)) (p,out)=some (out++upN d.l (k+1) p):=by
 have hmany:=hd.many
 intro k
 induction k with
 |zero=>
  intro p out h1 h2 h3 h4
  unfold upN
  rw [if_neg (by omega),List.append_nil]
  refine zi ?_;unfold Jb
  simp only
  rw [show decide (p≥0)=false by rw [decide_eq_false_iff_not];omega]
  rfl
 |succ k ih=>
  intro p out h1 h2 h3 h4
  by_cases hp:0≤p
  ·obtain ⟨m,rfl⟩: ∃ m:Nat,p=(m:Int):=⟨p.toNat,by omega⟩
   have hm:m<d.l.length:=by omega
   have hx:d.l[m]? =some d.l[m]:=List.getElem?_eq_getElem hm
   have hq:=par_lt hd hx
   unfold upN
   rw [if_pos hp,show ((m:Int)).toNat=m by omega,hx]
   dsimp only
   rw [show out++(m:Int)::upN d.l (k+1) d.l[m].Parent=out++[(m:Int)]++upN d.l (k+1) d.l[m].Parent by simp,←ih d.l[m].Parent (out++[(m:Int)]) (by omega) (by omega) (by omega) (by simp;omega)]
   refine zw ?_;unfold Jb
   simp only
   rw [show decide ((m:Int)≥0)=true by rw [decide_eq_true_eq];omega]
   simp only [cond_true]
   rw [QJ (by simp;omega)]
   simp only [Option.bind_some]
   rw [QN,hx]
   rfl
  ·unfold upN
   rw [if_neg hp,List.append_nil]
   refine zi ?_;unfold Jb
   simp only
   rw [show decide (p≥0)=false by rw [decide_eq_false_iff_not];omega]
   rfl
theorem upN_len: ∀ (k:Nat) (p:Int),(upN d.l k p).length≤k
 |0,_=>Nat.le_refl _
 |k+1,p=>by
  unfold upN
  split
  ·split
   ·rw [List.length_cons];have:=upN_len k;have:=this ‹zf›.Parent;omega
   ·simp
  ·simp
def ups (d:qg)(x:zf):List Int:=upN d.l (d.l.length+1) x.Parent
include hd in
theorem Up_in {m:Nat}{x:zf}(hx:d.l[m]? =some x):Je (some d) (m:Int)=some (ups d x):=by
 have hm:=(List.getElem?_eq_some_iff.1 hx).1
 have hq:=par_lt hd hx
 unfold Je
 rw [has_in hm]
 simp only [Option.bind_some,Bool.not_true,cond_false]
 rw [QN,hx]
 simp only [Option.bind_some]
 rw [upw_loop hd d.l.length x.Parent [] (by omega) (by omega) (by omega) (by simp;omega)]
 rfl
include hd in
theorem mem_upN: ∀ (k:Nat) (p:Int) (n:Nat),p+1≤(k:Int)→ -1≤p→p<(d.l.length:Int)→((n:Int)∈upN d.l (k+1) p↔0≤p∧Anc d.l p.toNat n):=by
 intro k
 induction k with
 |zero=>
  intro p n h1 h2 h3
  unfold upN
  rw [if_neg (by omega)]
  constructor
  ·intro h;cases h
  ·intro h;omega
 |succ k ih=>
  intro p n h1 h2 h3
  unfold upN
  by_cases hp:0≤p
  ·obtain ⟨m,rfl⟩: ∃ m:Nat,p=(m:Int):=⟨p.toNat,by omega⟩
   have hm:m<d.l.length:=by omega
   have hx:d.l[m]? =some d.l[m]:=List.getElem?_eq_getElem hm
   have hq:=par_lt hd hx
   rw [if_pos hp,show ((m:Int)).toNat=m by omega,hx]
   dsimp only
   rw [List.mem_cons,ih d.l[m].Parent n (by omega) (by omega) (by omega)]
   constructor
   ·rintro (h|⟨h,k⟩)
    ·obtain rfl:n=m:=by omega
     exact ⟨hp,.refl _⟩
    ·exact ⟨hp,.step hx h k⟩
   ·rintro ⟨_,h⟩
    cases h with
    |refl=>exact Or.inl rfl
    |step hz hz0 h=>rw [hx] at hz;cases hz;exact Or.inr ⟨hz0,h⟩
  ·rw [if_neg hp]
   constructor
   ·intro h;cases h
   ·intro h;omega
include hd in
theorem mem_up {m:Nat}{x:zf}(hx:d.l[m]? =some x)(n:Nat):(n:Int)∈ups d x↔Anc d.l m n∧m≠n:=by
 have hm:=(List.getElem?_eq_some_iff.1 hx).1
 have hq:=par_lt hd hx
 unfold ups
 rw [mem_upN hd d.l.length x.Parent n (by omega) (by omega) (by omega)]
 constructor
 ·rintro ⟨h,k⟩
  have:=k.le (parOk hd) (root_par hd)
  exact ⟨.step hx h k,by omega⟩
 ·rintro ⟨h,k⟩
  obtain ⟨z,z1,z2,z3⟩:=h.up k
  rw [hx] at z1;cases z1
  exact ⟨z2,z3⟩
end
theorem list_loop (l:List Int)(hl:l.length≤1000000): ∀ (k i:Nat),l.length-i≤k→i≤l.length→iter (J0 l) ((i:Int),(l.take i).map pt)=some (l.map pt):=by
 intro k
 induction k with
 |zero=>
  intro i h1 h2
  obtain rfl:i=l.length:=by omega
  refine zi ?_;unfold J0
  simp only
  rw [show decide ((l.length:Int)<(l.length:Int))=false by simp]
  simp
 |succ k ih=>
  intro i h1 h2
  by_cases hi:i<l.length
  ·rw [←ih (i+1) (by omega) (by omega)]
   refine zw ?_;unfold J0
   simp only
   rw [show decide ((i:Int)<(l.length:Int))=true by rw [decide_eq_true_eq];omega]
   simp only [cond_true]
   rw [zZ hi]
   simp only [Option.bind_some]
   rw [QJ (by simp;omega)]
   simp only [Option.bind_some]
   rw [zN (by omega),List.take_add_one,List.getElem?_eq_getElem hi,List.map_append]
   rfl
  ·obtain rfl:i=l.length:=by omega
   refine zi ?_;unfold J0
   simp only
   rw [show decide ((l.length:Int)<(l.length:Int))=false by simp]
   simp
theorem list_eq (l:List Int)(hl:l.length≤1000000):Js l=some (l.map pt):=by
 unfold Js
 rw [show ((0:Int),([]:List zk))=(((0:Nat):Int),(l.take 0).map pt) by simp,list_loop l hl l.length 0 (by omega) (by omega)]
 rfl
theorem mem_pt (l:List Int)(n:Int):pt n∈l.map pt↔n∈l:=by
 constructor
 ·intro h
  obtain ⟨a,h1,h2⟩:=List.mem_map.1 h
  have:a=n:=by unfold pt at h2;injection h2
  rw [←this];exact h1
 ·exact fun h=>List.mem_map.2 ⟨n,h,rfl⟩
theorem index_loop (s:List Int)(v:Int)(hs:s.length≤1000000): ∀ (k i:Nat),s.length-i≤k→i≤s.length→ ∃ r,iter (qE s v) (i:Int)=some r∧(match r with
 | .inl j=>0≤j∧v∈s.drop i
 | .inr _=>v∉s.drop i):=by
 intro k
 induction k with
 |zero=>
  intro i h1 h2
  obtain rfl:i=s.length:=by omega
  refine ⟨.inr (),zi ?_,by simp⟩;unfold qE
  rw [show decide ((s.length:Int)<(s.length:Int))=false by simp]
  rfl
 |succ k ih=>
  intro i h1 h2
  by_cases hi:i<s.length
  ·by_cases hv:v=s[i]
   ·refine ⟨.inl (i:Int),zi ?_,by omega,?_⟩
    ·unfold qE
     rw [show decide ((i:Int)<(s.length:Int))=true by rw [decide_eq_true_eq];omega]
     simp only [cond_true]
     rw [zZ hi]
     simp only [Option.bind_some]
     rw [show (v==s[i])=true by rw [beq_iff_eq];exact hv]
     rfl
    ·rw [List.drop_eq_getElem_cons hi,←hv];exact List.mem_cons_self
   ·obtain ⟨r,h,h'⟩:=ih (i+1) (by omega) (by omega);refine ⟨r,?_,?_⟩
    ·rw [←h]
     refine zw ?_;unfold qE
     rw [show decide ((i:Int)<(s.length:Int))=true by rw [decide_eq_true_eq];omega]
     simp only [cond_true]
     rw [zZ hi]
     simp only [Option.bind_some]
     rw [show (v==s[i])=false by rw [beq_eq_false_iff_ne];exact hv,zN (by omega)]
     rfl
    ·rw [List.drop_eq_getElem_cons hi]
     cases r with
     |inl j=>exact ⟨h'.1,List.mem_cons_of_mem _ h'.2⟩
     |inr u=>intro hm;rcases List.mem_cons.1 hm with h|h;exact hv h;exact h' h
  ·obtain rfl:i=s.length:=by omega
   refine ⟨.inr (),zi ?_,by simp⟩;unfold qE
   rw [show decide ((s.length:Int)<(s.length:Int))=false by simp]
   rfl
theorem contains_eq (s:List Int)(v:Int)(hs:s.length≤1000000):Za s v=some (decide (v∈s)):=by
 obtain ⟨r,h,h'⟩:=index_loop s v hs s.length 0 (by omega) (by omega);unfold Za QD
 rw [show (0:Int)=((0:Nat):Int) from rfl,h]
 rw [List.drop_zero] at h'
 cases r with
 |inl j=>
  simp only [Option.bind_some,Sum.elim_inl]
  rw [show decide (v∈s)=true by rw [decide_eq_true_eq];exact h'.2,show decide (j≥((0:Nat):Int))=true by rw [decide_eq_true_eq];exact h'.1]
 |inr u=>
  simp only [Option.bind_some,Sum.elim_inr]
  rw [show decide (v∈s)=false by rw [decide_eq_false_iff_not];exact h']
  rfl
def runN (but:List Int)(a b:Nat):List zk:=((List.range' a (b-a)).filter fun (n:Nat)=> !decide ((n:Int)∈but)).map fun (n:Nat)=>pt (n:Int)
theorem run_loop' (but:List Int)(hb:but.length≤1000000)(b:Nat)(hbb:b≤1000000): ∀ (k a:Nat) (out:List zk),b-a≤k→out.length≤a→iter (Q0 (b:Int) but) ((a:Int),out)=some (out++runN but a b):=by
 intro k
 induction k with
 |zero=>
  intro a out h1 h2
  have:b-a=0:=by omega
  refine zi ?_;unfold Q0 runN
  simp only
  rw [show decide ((a:Int)<(b:Int))=false by rw [decide_eq_false_iff_not];omega,this]
  simp
 |succ k ih=>
  intro a out h1 h2
  by_cases ha:a<b
  ·have e:decide ((a:Int)<(b:Int))=true:=by rw [decide_eq_true_eq];omega
   have hw:w64 ((a:Int)+1)=((a+1:Nat):Int):=zN (by omega)
   have hr:List.range' a (b-a)=a::List.range' (a+1) (b-(a+1)):=by rw [show b-a=(b-(a+1))+1 by omega,List.range'_succ]
   by_cases hc:(a:Int)∈but
   ·rw [show runN but a b=runN but (a+1) b by unfold runN;rw [hr];simp [hc],←ih (a+1) out (by omega) (by omega)]
    refine zw ?_;unfold Q0
    simp only [e,cond_true,contains_eq but (a:Int) hb,Option.bind_some,hw]
    rw [show decide ((a:Int)∈but)=true by rw [decide_eq_true_eq];exact hc]
    rfl
   ·rw [show out++runN but a b=out++[pt (a:Int)]++runN but (a+1) b by unfold runN;rw [hr];simp [hc],←ih (a+1) (out++[pt (a:Int)]) (by omega) (by simp;omega)]
    refine zw ?_;unfold Q0
    simp only [e,cond_true,contains_eq but (a:Int) hb,Option.bind_some,hw]
    rw [show decide ((a:Int)∈but)=false by rw [decide_eq_false_iff_not];exact hc]
    simp only [Bool.not_false,cond_true]
    rw [QJ (by simp;omega)]
    rfl
  ·have:b-a=0:=by omega
   refine zi ?_;unfold Q0 runN
   simp only
   rw [show decide ((a:Int)<(b:Int))=false by rw [decide_eq_false_iff_not];omega,this]
   simp
theorem run_eq (but:List Int)(hb:but.length≤1000000)(a b:Nat)(hbb:b≤1000000):Qm (a:Int) (b:Int) but=some (runN but a b):=by
 unfold Qm
 rw [run_loop' but hb b hbb (b-a) a [] (by omega) (by simp)]
 rfl
theorem mem_run (but:List Int)(a b m:Nat):pt (m:Int)∈runN but a b↔a≤m∧m<b∧(m:Int)∉but:=by
 unfold runN
 rw [List.mem_map]
 constructor
 ·rintro ⟨n,h1,h2⟩
  have:(n:Int)=(m:Int):=by unfold pt at h2;injection h2
  obtain rfl:n=m:=by omega
  rw [List.mem_filter,List.mem_range'_1] at h1
  refine ⟨h1.1.1,by omega,?_⟩
  intro hc;simp [hc] at h1
 ·rintro ⟨h1,h2,h3⟩
  exact ⟨m,List.mem_filter.2 ⟨List.mem_range'_1.2 ⟨h1,by omega⟩,by simp [h3]⟩,rfl⟩
theorem at_mid2 {α:Type}{L:List α}(p:List α)(c:α)(r:List α){i:Nat}(hL:L=p++c::r)(h:i=p.length):at' L (i:Int)=some c:=by
 subst h hL;rw [QN];simp
theorem put_mid2 {α:Type}{L:List α}(p:List α)(c:α)(r:List α){i:Nat}(d:α)(hL:L=p++c::r)(h:i=p.length):put L (i:Int) d=some (p++d::r):=by
 subst h hL;rw [put_of (by simp)];simp
theorem swp2 {α ρ:Type}{L:List α}(p s q:List α)(c d:α){i j:Nat}(hL:L=p++c::(s++d::q))(hi:i=p.length)(hj:j=p.length+1+s.length)(k:List α→Option ρ):
 ((at' L (j:Int)).bind fun v2=>(at' L (i:Int)).bind fun v3=>(at' L (i:Int)).bind fun v4=>(put L (i:Int) v2).bind fun v5=>(at' v5 (j:Int)).bind fun v6=>(put v5 (j:Int) v3).bind k)=k (p++d::(s++c::q)):=by
 rw [at_mid2 p c _ hL hi,at_mid2 (p++c::s) d q (by rw [hL];simp) (by simp;omega)]
 simp only [Option.bind_some]
 rw [put_mid2 p c _ d hL hi]
 simp only [Option.bind_some]
 rw [at_mid2 (p++d::s) d q (by simp) (by simp;omega)]
 simp only [Option.bind_some]
 rw [put_mid2 (p++d::s) d q c (by simp) (by simp;omega)]
 simp only [Option.bind_some,List.append_assoc,List.cons_append]
theorem rev_loop: ∀ (k:Nat) (a mid b:List zk),mid.length≤k→a.length=b.length→a.length+mid.length+b.length≤1000000→iter zW ((b.length:Int),(((b.length:Int)+(mid.length:Int)-1),a++mid++b))=some (a++mid.reverse++b):=by
 intro k
 induction k with
 |zero=>
  intro a mid b h1 h2 h3
  obtain rfl:mid=[]:=List.length_eq_zero_iff.1 (by omega);refine zi ?_;unfold zW
  simp only
  rw [show decide ((b.length:Int)<(b.length:Int)+((([]:List zk).length:Nat):Int)-1)=false by rw [decide_eq_false_iff_not,List.length_nil];omega]
  rfl
 |succ k ih=>
  intro a mid b h1 h2 h3
  cases mid with
  |nil=>
   refine zi ?_;unfold zW
   simp only
   rw [show decide ((b.length:Int)<(b.length:Int)+((([]:List zk).length:Nat):Int)-1)=false by rw [decide_eq_false_iff_not,List.length_nil];omega]
   rfl
  |cons c m=>
   by_cases hm:m=[]
   ·subst hm
    refine zi ?_;unfold zW
    simp only
    rw [show decide ((b.length:Int)<(b.length:Int)+((([c]:List zk).length:Nat):Int)-1)=false by rw [decide_eq_false_iff_not];simp]
    rfl
   ·obtain ⟨s,e,rfl⟩: ∃ s e,m=s++[e]:=⟨m.dropLast,m.getLast hm,(List.dropLast_concat_getLast hm).symm⟩
    simp only [List.length_cons,List.length_append,List.length_nil] at h1 h3
    have hstep: ∀ (L:List zk) (i j:Nat),L=a++c::(s++e::b)→i=a.length→j=a.length+1+s.length→zW ((i:Int),((j:Int),L))=some (.inl (((i+1:Nat):Int),(((j:Int)-1),a++e::(s++c::b)))):=by
     intro L i j hL hi hj
     unfold zW
     simp only
     rw [show decide ((i:Int)<(j:Int))=true by rw [decide_eq_true_eq];omega]
     simp only [cond_true]
     rw [swp2 a s b c e hL hi hj,zN (by omega),qI (by omega)]
    have hnext:=ih (a++[e]) s (c::b) (by omega) (by simp;omega) (by simp;omega)
    have e1:a++(c::(s++[e])).reverse++b=a++[e]++s.reverse++(c::b):=by simp
    rw [e1,←hnext]
    have hs:=hstep (a++c::(s++[e])++b) b.length (a.length+1+s.length) (by simp) (by omega) rfl
    refine (zw (s':=(((b.length+1:Nat):Int),((((a.length+1+s.length:Nat):Int)-1),a++e::(s++c::b)))) ?_).trans ?_
    ·rw [←hs]
     congr 3
     simp only [List.length_cons,List.length_append,List.length_nil];omega
    ·congr 1
     refine Prod.ext ?_ (Prod.ext ?_ ?_)
     ·simp
     ·simp;omega
     ·simp
theorem rev_eq (s:List zk)(hs:s.length≤1000000):qt s=some s.reverse:=by
 have h:=rev_loop s.length [] s [] (by omega) rfl (by simp;omega)
 simp only [List.length_nil,List.nil_append,List.append_nil] at h
 unfold qt
 rw [show w64 ((s.length:Int)-1)=((0:Nat):Int)+(s.length:Int)-1 by rw [qI (by omega)];omega]
 rw [show (0:Int)=((0:Nat):Int) from rfl,h]
 rfl
section
variable {d:qg} (hd:DocOk d)
include hd in
theorem anc_le {a b:Nat}(h:Anc d.l a b):b≤a:=Anc.le (parOk hd) (root_par hd) h
include hd in
theorem mem_kidsF {n:Nat}(hn:n<d.l.length)(k:Nat): ∀ (f m:Nat),endN d n-m<f→n<m→m≤endN d n→(∀ i,n<i→i<m→endN d i≤m)→((k:Int)∈kidsF d (endN d n) f m↔m≤k∧ ∃ x,d.l[k]? =some x∧x.Parent=(n:Int)):=by
 obtain ⟨_,_,hEl,hEa⟩:=JC hd hn
 intro f
 induction f with
 |zero=>intro m h;omega
 |succ f ih=>
  intro m h1 h2 h3 h4
  unfold kidsF
  by_cases hm:m<endN d n
  ·have hml:m<d.l.length:=by omega
   obtain ⟨_,b1,b2,b3⟩:=JC hd hml
   have hnest:=end_nest hd hn (Nat.le_of_lt h2) hm
   rw [if_pos hm,List.mem_cons]
   have ih':=ih (endN d m) (by omega) (by omega) hnest (fun i i1 i2=>by
    by_cases hi:i<m
    ·have:=h4 i i1 hi;omega
    ·exact end_nest hd hml (by omega) i2)
   rw [ih']
   have hxm:d.l[m]? =some d.l[m]:=List.getElem?_eq_getElem hml
   have hpar:d.l[m].Parent=(n:Int):=by
    have ha:=(hEa m (by omega) hml).1 hm
    obtain ⟨z,z1,z2,z3⟩:=Anc.up ha (by omega)
    rw [hxm] at z1
    cases z1
    have hlt:=par_lt hd hxm
    have hle:=anc_le hd z3
    by_cases e:d.l[m].Parent.toNat=n
    ·omega
    ·exfalso
     have q:=h4 d.l[m].Parent.toNat (by omega) (by omega)
     have hpl:d.l[m].Parent.toNat<d.l.length:=by omega
     have q2:=((JC hd hpl).2.2.2 m (by omega) hml).2 (Anc.step hxm z2 (Anc.refl _))
     omega
   constructor
   ·rintro (h|⟨h,h'⟩)
    ·obtain rfl:k=m:=by omega
     exact ⟨Nat.le_refl _,_,hxm,hpar⟩
    ·exact ⟨by omega,h'⟩
   ·rintro ⟨h,x,hx,hp⟩
    by_cases e:k=m
    ·exact Or.inl (by omega)
    ·refine Or.inr ⟨?_,x,hx,hp⟩
     have hk:=(List.getElem?_eq_some_iff.1 hx).1
     by_cases hke:k<endN d m
     ·exfalso
      have ha:=(b3 k h hk).1 hke
      obtain ⟨z,z1,z2,z3⟩:=Anc.up ha e
      rw [hx] at z1
      cases z1
      have:=anc_le hd z3
      rw [hp] at this
      omega
     ·omega
  ·rw [if_neg hm]
   constructor
   ·intro h;cases h
   ·rintro ⟨h,x,hx,hp⟩
    exfalso
    have hk:=(List.getElem?_eq_some_iff.1 hx).1
    have ha:Anc d.l k n:=Anc.step hx (by omega) (by rw [hp,Int.toNat_natCast];exact Anc.refl _)
    have:=(hEa k (by omega) hk).2 ha
    omega
def kidsN (d:qg)(n:Nat):List Int:=kidsF d (endN d n) (d.l.length+1) (n+1)
include hd in
theorem mem_kids {n:Nat}(hn:n<d.l.length)(k:Nat):(k:Int)∈kidsN d n↔ ∃ x,d.l[k]? =some x∧x.Parent=(n:Int):=by
 obtain ⟨_,h1,h2,_⟩:=JC hd hn;unfold kidsN
 rw [mem_kidsF hd hn k _ _ (by omega) (Nat.lt_succ_self n) (by omega) (fun i a b=>by omega)]
 constructor
 ·exact fun h=>h.2
 ·rintro ⟨x,hx,hp⟩
  have:=par_lt hd hx
  exact ⟨by omega,x,hx,hp⟩
end
theorem idxf_loop (s:List Int)(f:Int→Option Bool)(g:Int→Bool)(hf: ∀ v,f v=some (g v))(hs:s.length≤1000000): ∀ (k i:Nat),s.length-i≤k→i≤s.length→(∀ v∈s.take i,g v=false)→(∃ j:Nat,iter (zB s f) (i:Int)=some (.inl (j:Int))∧ ∃ h:j<s.length,g s[j]=true∧ ∀ v∈s.take j,g v=false)∨(iter (zB s f) (i:Int)=some (.inr ())∧ ∀ v∈s,g v=false):=by
 have hend: ∀ i,i=s.length→(∀ v∈s.take i,g v=false)→(iter (zB s f) (i:Int)=some (.inr ())∧ ∀ v∈s,g v=false):=by
  intro i hi h
  subst hi
  rw [List.take_length] at h
  refine ⟨zi ?_,h⟩;unfold zB
  rw [show decide ((s.length:Int)<(s.length:Int))=false by simp]
  rfl
 intro k
 induction k with
 |zero=>intro i h1 h2 h3;exact Or.inr (hend i (by omega) h3)
 |succ k ih=>
  intro i h1 h2 h3
  by_cases hi:i<s.length
  ·have e:decide ((i:Int)<(s.length:Int))=true:=by rw [decide_eq_true_eq];omega
   cases hg:g s[i] with
   |true=>
    refine Or.inl ⟨i,zi ?_,hi,hg,h3⟩;unfold zB
    rw [e,cond_true,zZ hi]
    simp only [Option.bind_some,hf,hg,cond_true]
   |false=>
    have hw:w64 ((i:Int)+1)=((i+1:Nat):Int):=zN (by omega)
    have hstep:iter (zB s f) (i:Int)=iter (zB s f) ((i+1:Nat):Int):=by
     refine zw ?_;unfold zB
     rw [e,cond_true,zZ hi]
     simp only [Option.bind_some,hf,hg,cond_false,hw]
    rw [hstep]
    refine ih (i+1) (by omega) (by omega) (fun v hv=> ?_)
    rw [List.take_succ_eq_append_getElem hi,List.mem_append,List.mem_singleton] at hv
    rcases hv with hv|hv
    ·exact h3 v hv
    ·rw [hv];exact hg
  ·exact Or.inr (hend i (by omega) h3)
theorem take_set_succ {α:Type}(l:List α)(i:Nat)(v:α)(hi:i<l.length):(l.set i v).take (i+1)=l.take i++[v]:=by
 rw [List.take_succ_eq_append_getElem (by simpa using hi),List.getElem_set_self,List.take_set_of_le (Nat.le_refl i)]
theorem del_loop (s:List Int)(f:Int→Option Bool)(g:Int→Bool)(hf: ∀ v,f v=some (g v))(hs:s.length≤1000000): ∀ (k i j:Nat) (l:List Int),s.length-j≤k→j≤s.length→i≤j→l.length=s.length→l.take i=(s.take j).filter (fun v=> !g v)→l.drop j=s.drop j→ ∃ (i':Nat) (l':List Int),iter (zC f) ((i:Int),(j:Int),l)=some ((i':Int),l')∧l'.length=s.length∧i'≤s.length∧l'.take i'=s.filter (fun v=> !g v):=by
 have hend: ∀ (i j:Nat) (l:List Int),j=s.length→i≤j→l.length=s.length→l.take i=(s.take j).filter (fun v=> !g v)→ ∃ (i':Nat) (l':List Int),iter (zC f) ((i:Int),(j:Int),l)=some ((i':Int),l')∧l'.length=s.length∧i'≤s.length∧l'.take i'=s.filter (fun v=> !g v):=by
  intro i j l hj h3 h4 h5
  subst hj
  rw [List.take_length] at h5
  refine ⟨i,l,zi ?_,h4,h3,h5⟩;unfold zC
  simp only
  rw [h4,show decide ((s.length:Int)<(s.length:Int))=false by simp]
  rfl
 intro k
 induction k with
 |zero=>intro i j l h1 h2 h3 h4 h5 h6;exact hend i j l (by omega) h3 h4 h5
 |succ k ih=>
  intro i j l h1 h2 h3 h4 h5 h6
  by_cases hj:j<s.length
  ·have hjl:j<l.length:=by omega
   have hv:l[j]=s[j]:=by
    have:=congrArg (fun q=>q[0]?) h6
    simp only [List.getElem?_drop,Nat.add_zero,List.getElem?_eq_getElem hjl,List.getElem?_eq_getElem hj] at this
    exact Option.some.inj this
   have e:decide ((j:Int)<(l.length:Int))=true:=by rw [decide_eq_true_eq];omega
   have hwj:w64 ((j:Int)+1)=((j+1:Nat):Int):=zN (by omega)
   cases hg:g s[j] with
   |true=>
    have hstep:iter (zC f) ((i:Int),(j:Int),l)=iter (zC f) ((i:Int),((j+1:Nat):Int),l):=by
     refine zw ?_;unfold zC
     simp only [e,cond_true,zZ hjl,Option.bind_some,hf,hv,hg,Bool.not_true,cond_false,hwj]
    rw [hstep]
    refine ih i (j+1) l (by omega) (by omega) (by omega) h4 ?_ ?_
    ·rw [h5,List.take_succ_eq_append_getElem hj,List.filter_append]
     simp [hg]
    ·rw [←List.drop_drop,h6,List.drop_drop]
   |false=>
    have hwi:w64 ((i:Int)+1)=((i+1:Nat):Int):=zN (by omega)
    have hil:i<l.length:=by omega
    have hstep:iter (zC f) ((i:Int),(j:Int),l)=iter (zC f) (((i+1:Nat):Int),((j+1:Nat):Int),l.set i s[j]):=by
     refine zw ?_;unfold zC
     simp only [e,cond_true,zZ hjl,Option.bind_some,hf,hv,hg,Bool.not_false,zZ hil,put_of hil,hwj,hwi]
    rw [hstep]
    refine ih (i+1) (j+1) _ (by omega) (by omega) (by omega) (by simpa using h4) ?_ ?_
    ·rw [take_set_succ l i _ hil,h5,List.take_succ_eq_append_getElem hj,List.filter_append]
     simp [hg]
    ·rw [List.drop_set_of_lt (by omega),←List.drop_drop,h6,List.drop_drop]
  ·exact hend i j l (by omega) h3 h4 h5
theorem delete_eq (s:List Int)(f:Int→Option Bool)(g:Int→Bool)(hf: ∀ v,f v=some (g v))(hs:s.length≤1000000):qG s f=some (s.filter (fun v=> !g v)):=by
 unfold qG Zz
 rcases idxf_loop s f g hf hs s.length 0 (by omega) (by omega) (by simp) with ⟨j,h1,hj,h2,h3⟩|⟨h1,h2⟩
 ·rw [show iter (zB s f) 0=_ from h1]
  simp only [Option.bind_some,Sum.elim_inl]
  rw [show ((j:Int)==(-1))=false by rw [beq_eq_false_iff_ne];omega,zN (by omega)]
  simp only [cond_false]
  obtain ⟨i',l',a1,a2,a3,a4⟩:=del_loop s f g hf hs (s.length) j (j+1) s (by omega) (by omega) (by omega) rfl (by
   rw [List.take_succ_eq_append_getElem hj,List.filter_append]
   simp only [List.filter_cons,h2,Bool.not_true,List.filter_nil]
   rw [List.filter_eq_self.2 (fun v hv=>by rw [h3 v hv];rfl)]
   simp) rfl
  rw [a1]
  simp only [Option.bind_some]
  rw [rng_of (by omega),Option.bind_some,clr_of 0 (by simp only [Int.toNat_natCast];omega),Option.bind_some,rng_of (by omega),Option.bind_some]
  simp only [Int.toNat_natCast]
  rw [prt_of (by simp;omega),Option.bind_some,List.drop_zero,List.append_assoc,List.take_append_of_le_length (by simp;omega),List.take_take,Nat.min_self,a4]
 ·rw [show iter (zB s f) 0=_ from h1]
  simp only [Option.bind_some,Sum.elim_inr]
  rw [show ((-1:Int)==(-1))=true from rfl,cond_true,List.filter_eq_self.2 (fun v hv=>by rw [h2 v hv];rfl)]
theorem inP_loop (s:List zk)(p:zk)(hs:s.length≤100000000): ∀ (k i:Nat),s.length-i≤k→i≤s.length→ ∃ r,iter (qS s p) (i:Int)=some r∧(match r with| .inl _=>p∈s.drop i| .inr _=>p∉s.drop i):=by
 intro k
 induction k with
 |zero=>
  intro i h1 h2
  obtain rfl:i=s.length:=by omega
  refine ⟨.inr (),zi ?_,by simp⟩;unfold qS
  rw [show decide ((s.length:Int)<(s.length:Int))=false by simp]
  rfl
 |succ k ih=>
  intro i h1 h2
  by_cases hi:i<s.length
  ·have e:decide ((i:Int)<(s.length:Int))=true:=by rw [decide_eq_true_eq];omega
   rw [List.drop_eq_getElem_cons hi]
   by_cases hv:s[i]=p
   ·refine ⟨.inl (),zi ?_,by rw [hv];exact List.mem_cons_self⟩;unfold qS
    rw [e,cond_true,zZ hi]
    simp only [Option.bind_some]
    rw [show zk.eqb s[i] p=true by subst hv;unfold zk.eqb;exact beq_self_eq_true _]
    rfl
   ·obtain ⟨r,h,h'⟩:=ih (i+1) (by omega) (by omega)
    have hw:w64 ((i:Int)+1)=((i+1:Nat):Int):=zN (by omega)
    refine ⟨r,?_,?_⟩
    ·rw [←h]
     refine zw ?_;unfold qS
     rw [e,cond_true,zZ hi]
     simp only [Option.bind_some]
     rw [show zk.eqb s[i] p=false by
      cases he:zk.eqb s[i] p with
      |false=>rfl
      |true=>
       exfalso;apply hv
       revert he
       generalize s[i]=q
       intro he
       obtain ⟨a,b,c⟩:=q;obtain ⟨a',b',c'⟩:=p;unfold zk.eqb zk.ints at he
       rw [beq_iff_eq] at he
       simp at he
       simp [he],hw]
     rfl
    ·cases r with
     |inl u=>exact List.mem_cons_of_mem _ h'
     |inr u=>intro hm;rcases List.mem_cons.1 hm with h|h;exact hv h.symm;exact h' h
  ·obtain rfl:i=s.length:=by omega
   refine ⟨.inr (),zi ?_,by simp⟩;unfold qS
   rw [show decide ((s.length:Int)<(s.length:Int))=false by simp]
   rfl
open Classical in
theorem inP_eq (s:List zk)(p:zk)(hs:s.length≤100000000):qd s p=some (decide (p∈s)):=by
 obtain ⟨r,h,h'⟩:=inP_loop s p hs s.length 0 (by omega) (by omega);unfold qd
 rw [show (0:Int)=((0:Nat):Int) from rfl,h]
 rw [List.drop_zero] at h'
 cases r with
 |inl j=>
  simp only [Option.bind_some,Sum.elim_inl]
  rw [show decide (p∈s)=true by rw [decide_eq_true_eq];exact h']
 |inr u=>
  simp only [Option.bind_some,Sum.elim_inr]
  rw [show decide (p∈s)=false by rw [decide_eq_false_iff_not];exact h']
def Leads (d:qg)(n:Nat)(a:Int)(R:Nat→Prop):Prop:= ∃ l,qH (some d) (pt (n:Int)) a=some l∧l.length≤1000000∧ ∀ m:Nat,m<d.l.length→(pt (m:Int)∈l↔R m)
section
variable {d:qg} (hd:DocOk d)
theorem along_of {n:Nat}(hn:n<d.l.length){a:Int}{nm:Str}(ha:axis_Name a=some nm)(hne:(nm==[])=false){l:List zk}(hl:axis_lead (some d) (pt (n:Int)) a=some l)(h12:(a==12)=false)(h10:(a==10)=false):qH (some d) (pt (n:Int)) a=some l:=by
 unfold qH
 rw [show QX (some d) (pt (n:Int))=some true from HasSelf hn]
 simp only [Option.bind_some,Bool.not_true,cond_false,ha,hne,hl,h12,h10]
theorem along_rev {n:Nat}(hn:n<d.l.length){a:Int}{nm:Str}(ha:axis_Name a=some nm)(hne:(nm==[])=false){l:List zk}(hl:axis_lead (some d) (pt (n:Int)) a=some l)(h:(a==12)=true∨(a==12)=false∧(a==10)=true)(hs:l.length≤1000000):qH (some d) (pt (n:Int)) a=some l.reverse:=by
 unfold qH
 rw [show QX (some d) (pt (n:Int))=some true from HasSelf hn]
 simp only [Option.bind_some,Bool.not_true,cond_false,ha,hne,hl,rev_eq l hs]
 rw [eqn_of (by simp)]
 rcases h with h|⟨h,h'⟩
 ·rw [h];rfl
 ·rw [h,h'];rfl
include hd in
theorem runN_len {a b:Nat}(but:List Int)(hb:b≤d.l.length):(runN but a b).length≤1000000:=by
 have hmany:=hd.many
 unfold runN
 rw [List.length_map]
 refine Nat.le_trans (List.length_filter_le _ _) ?_
 rw [List.length_range'];omega
include hd in
theorem kidsN_len (n:Nat):(kidsN d n).length≤1000000:=by
 have hmany:=hd.many
 have:=kidsF_len d (endN d n) (d.l.length+1) (n+1)
 unfold kidsN;omega
include hd in
theorem ups_len {m:Nat}{x:zf}(hx:d.l[m]? =some x):(ups d x).length≤1000000:=by
 have hmany:=hd.many
 have hm:=(List.getElem?_eq_some_iff.1 hx).1
 have hp:=par_lt hd hx
 unfold ups;refine Nat.le_trans (upN_len _ _) ?_
 omega
theorem part0 (n:Int):((pt n).Part != 0)=false:=rfl
include hd in
theorem above_eq {m:Nat}{x:zf}(hx:d.l[m]? =some x):Qk (some d) (pt (m:Int))=some ((ups d x).map pt):=by
 unfold Qk
 rw [show (pt (m:Int)).N=(m:Int) from rfl,Up_in hd hx,Option.bind_some,list_eq _ (ups_len hd hx),Option.bind_some,part0];rfl
include hd in
theorem mem_ups {m:Nat}{x:zf}(hx:d.l[m]? =some x)(n:Nat):pt (n:Int)∈(ups d x).map pt↔Anc d.l m n∧m≠n:=by
 rw [mem_pt,mem_up hd hx]
include hd in
theorem lead3 {n:Nat}(hn:n<d.l.length):Leads d n 3 fun m=>n<m∧Anc d.l m n:=by
 obtain ⟨_,h1,h2,h3⟩:=JC hd hn
 have hmany:=hd.many
 refine ⟨runN [] (n+1) (endN d n),along_of hn rfl rfl ?_ rfl rfl,runN_len hd _ h2,fun m hm=> ?_⟩
 ·show ((ZA (some d) (n:Int)).bind fun v14=>(Qm (w64 ((n:Int)+1)) v14 []).bind fun v15=>some v15)=_
  rw [End_in hd hn,Option.bind_some,zN (by omega),run_eq [] (by simp) _ _ (by omega)];rfl
 ·rw [mem_run]
  constructor
  ·rintro ⟨a,b,_⟩;exact ⟨by omega,(h3 m (by omega) hm).1 b⟩
  ·rintro ⟨a,b⟩;exact ⟨by omega,(h3 m (by omega) hm).2 b,by simp⟩
include hd in
theorem lead4 {n:Nat}(hn:n<d.l.length):Leads d n 4 fun m=>Anc d.l m n:=by
 obtain ⟨_,h1,h2,h3⟩:=JC hd hn
 have hmany:=hd.many
 refine ⟨runN [] n (endN d n),along_of hn rfl rfl ?_ rfl rfl,runN_len hd _ h2,fun m hm=> ?_⟩
 ·show ((ZA (some d) (n:Int)).bind fun v16=>(Qm (n:Int) v16 []).bind fun v17=>some v17)=_
  rw [End_in hd hn,Option.bind_some,run_eq [] (by simp) _ _ (by omega)];rfl
 ·rw [mem_run]
  constructor
  ·rintro ⟨a,b,_⟩;exact (h3 m a hm).1 b
  ·intro b;have:=anc_le hd b;exact ⟨this,(h3 m this hm).2 b,by simp⟩
include hd in
theorem lead5 {n:Nat}(hn:n<d.l.length):Leads d n 5 fun m=>Anc d.l n m∧n≠m:=by
 have hx:d.l[n]? =some d.l[n]:=List.getElem?_eq_getElem hn
 refine ⟨(ups d d.l[n]).map pt,along_of hn rfl rfl ?_ rfl rfl,by rw [List.length_map];exact ups_len hd hx,fun m hm=>mem_ups hd hx m⟩
 show ((Qk (some d) (pt (n:Int))).bind fun v3=>some v3)=_
 rw [above_eq hd hx];rfl
include hd in
theorem lead6 {n:Nat}(hn:n<d.l.length):Leads d n 6 fun m=>Anc d.l n m:=by
 have hx:d.l[n]? =some d.l[n]:=List.getElem?_eq_getElem hn
 have hlen:=ups_len hd hx
 have hlen2:(ups d d.l[n]).length≤999999:=by
  have hmany:=hd.many
  unfold ups;refine Nat.le_trans (upN_len _ _) ?_
  omega
 refine ⟨pt (n:Int)::(ups d d.l[n]).map pt,along_of hn rfl rfl ?_ rfl rfl,by rw [List.length_cons,List.length_map];omega,fun m hm=> ?_⟩
 ·show (((Qk (some d) (pt (n:Int))).bind fun v4=>(qZ v4 0 [pt (n:Int)]).bind fun v5=>some v5:Option (List zk)).bind fun (q6:List zk)=>some q6)=_
  rw [above_eq hd hx,Option.bind_some]
  unfold qZ ins
  rw [show decide ((0:Int)≤0∧(0:Int).toNat≤((ups d d.l[n]).map pt).length∧(((ups d d.l[n]).map pt).length+[pt (n:Int)].length)*24≤140737488355328)=true by
   rw [decide_eq_true_eq,List.length_map];refine ⟨by omega,by simp,?_⟩;simp only [List.length_cons,List.length_nil];omega]
  simp
 ·rw [List.mem_cons,mem_ups hd hx]
  constructor
  ·rintro (h|h)
   ·have:(m:Int)=(n:Int):=by unfold pt at h;injection h
    obtain rfl:m=n:=by omega
    exact Anc.refl _
   ·exact h.1
  ·intro h
   by_cases e:n=m
   ·subst e;exact Or.inl rfl
   ·exact Or.inr ⟨h,e⟩
include hd in
theorem lead11 {n:Nat}(hn:n<d.l.length):Leads d n 11 fun m=>n<m∧ ¬ Anc d.l m n:=by
 obtain ⟨_,h1,h2,h3⟩:=JC hd hn
 have hmany:=hd.many
 refine ⟨runN [] (endN d n) d.l.length,along_of hn rfl rfl ?_ rfl rfl,runN_len hd _ (Nat.le_refl _),fun m hm=> ?_⟩
 ·show ((ZA (some d) (n:Int)).bind fun v3=>(Zt (some d)).bind fun v6=>(Qm v3 v6 []).bind fun v7=>some v7).bind (fun v10=>some v10)=_
  rw [End_in hd hn,Option.bind_some,Len_eq,Option.bind_some,run_eq [] (by simp) _ _ (by omega)];rfl
 ·rw [mem_run]
  constructor
  ·rintro ⟨a,b,_⟩;exact ⟨by omega,fun h=>by have:=(h3 m (by omega) hm).2 h;omega⟩
  ·rintro ⟨a,b⟩
   refine ⟨?_,hm,by simp⟩
   by_cases e:m<endN d n
   ·exact absurd ((h3 m (by omega) hm).1 e) b
   ·omega
include hd in
theorem lead12 {n:Nat}(hn:n<d.l.length):Leads d n 12 fun m=>m<n∧ ¬ Anc d.l n m:=by
 have hmany:=hd.many
 have hx:d.l[n]? =some d.l[n]:=List.getElem?_eq_getElem hn
 have hlen:(runN (ups d d.l[n]) 0 n).length≤1000000:=runN_len hd _ (Nat.le_of_lt hn)
 refine ⟨(runN (ups d d.l[n]) 0 n).reverse,along_rev hn rfl rfl ?_ (Or.inl rfl) hlen,by rw [List.length_reverse];exact hlen,fun m hm=> ?_⟩
 ·show ((Je (some d) (n:Int)).bind fun v1=>(Qm 0 (n:Int) v1).bind fun v2=>some v2).bind (fun v10=>some v10)=_
  rw [Up_in hd hx,Option.bind_some,show Qm 0 (n:Int) (ups d d.l[n])=_ from run_eq _ (ups_len hd hx) 0 n (by omega)];rfl
 ·rw [List.mem_reverse,mem_run,mem_up hd hx]
  constructor
  ·rintro ⟨_,b,c⟩;exact ⟨b,fun h=>c ⟨h,by omega⟩⟩
  ·rintro ⟨a,b⟩;exact ⟨by omega,a,fun h=>b h.1⟩
include hd in
theorem lead1 {n:Nat}(hn:n<d.l.length):Leads d n 1 fun m=> ∃ x,d.l[m]? =some x∧x.Parent=(n:Int):=by
 refine ⟨(kidsN d n).map pt,along_of hn rfl rfl ?_ rfl rfl,by rw [List.length_map];exact kidsN_len hd n,fun m hm=>by rw [mem_pt,mem_kids hd hn]⟩
 show ((Qz (some d) (n:Int)).bind fun v12=>(Js v12).bind fun v13=>some v13)=_
 rw [Kids_in hd hn,Option.bind_some]
 show ((Js (kidsN d n)).bind fun v13=>some v13)=_
 rw [list_eq _ (kidsN_len hd n)];rfl
theorem upN_head (l:List zf)(k:Nat)(p:Int):(upN l (k+1) p).take 1=if 0≤p then [p] else []:=by
 unfold upN
 split
 ·rfl
 ·rfl
include hd in
theorem lead2 {n:Nat}(hn:n<d.l.length):Leads d n 2 fun m=>d.l[n].Parent=(m:Int):=by
 have hx:d.l[n]? =some d.l[n]:=List.getElem?_eq_getElem hn
 have hlen:=ups_len hd hx
 refine ⟨((ups d d.l[n]).map pt).take 1,along_of hn rfl rfl ?_ rfl rfl,by rw [List.length_take];omega,fun m hm=> ?_⟩
 ·show ((Qk (some d) (pt (n:Int))).bind fun v1=>(rng (v1.length:Int) 0 (mn (v1.length:Int) 1)).bind fun _=>(prt v1 0 ((mn (v1.length:Int) 1).toNat)).bind fun v2=>some v2)=_
  rw [above_eq hd hx,Option.bind_some]
  generalize hL:(ups d d.l[n]).map pt=L
  have hm1:mn (L.length:Int) 1=((min L.length 1:Nat):Int):=by unfold mn;split<;>omega
  rw [hm1,rng_of (by omega),Option.bind_some,Int.toNat_natCast,prt_of (by omega),Option.bind_some,List.drop_zero]
  cases L with
  |nil=>rfl
  |cons a L=>simp
 ·rw [List.map_take.symm,show ups d d.l[n]=upN d.l (d.l.length+1) d.l[n].Parent from ?_]
  ·rw [upN_head]
   split
   ·simp only [List.map_cons,List.map_nil,List.mem_singleton]
    constructor
    ·intro h;unfold pt at h;injection h with h;exact h.symm
    ·intro h;rw [h]
   ·simp only [List.map_nil,List.not_mem_nil,false_iff]
    omega
  ·rfl
end
section
variable {d:qg} (hd:DocOk d)
theorem Parent_0 (hn:0<d.l.length):Qw (some d) (pt ((0:Nat):Int))=some (zk.mk 0 0 0,false):=by
 unfold Qw
 rw [show QX (some d) (pt ((0:Nat):Int))=some true from HasSelf hn]
 rfl
theorem Parent_s (hd:DocOk d){n:Nat}{x:zf}(hx:d.l[n]? =some x)(h0:n≠0):Qw (some d) (pt (n:Int))=some (pt x.Parent,true):=by
 have hn:=(List.getElem?_eq_some_iff.1 hx).1
 unfold Qw
 rw [show QX (some d) (pt (n:Int))=some true from HasSelf hn]
 simp only [Option.bind_some,Bool.not_true,cond_false]
 rw [part0,show ((pt (n:Int)).N==0)=false by rw [beq_eq_false_iff_ne];show (n:Int)≠0;omega,show qw (some d) (pt (n:Int)).N=some x from Node_in hd hx]
 rfl
def keepB (n:Int)(b:Bool)(v:Int):Bool:= !(v==n|| !(decide (v>n)==b))
include hd in
theorem beside_eq {n:Nat}{x:zf}(hx:d.l[n]? =some x)(h0:n≠0)(b:Bool):Zv (some d) (pt (n:Int)) b=some (((kidsN d x.Parent.toNat).filter (keepB (n:Int) b)).map pt):=by
 have hp:=par_lt hd hx
 have hn:=(List.getElem?_eq_some_iff.1 hx).1
 have hpl:x.Parent.toNat<d.l.length:=by omega
 unfold Zv
 rw [Parent_s hd hx h0]
 simp only [Option.bind_some,Bool.not_true,cond_false,part0]
 rw [show (pt x.Parent).N=((x.Parent.toNat:Nat):Int) by show x.Parent=_;omega,Kids_in hd hpl,Option.bind_some]
 rw [show kidsF d (endN d x.Parent.toNat) (d.l.length+1) (x.Parent.toNat+1)=kidsN d x.Parent.toNat from rfl,
  delete_eq (kidsN d x.Parent.toNat) (fun x0=>Jn x0 (pt (n:Int)) b) (fun v=>v==(n:Int)|| !(decide (v>(n:Int))==b)) (fun v=>by
   unfold Jn
   show (bif v==(n:Int) then some true else some (!(decide (v>(n:Int))==b)))=_
   cases v==(n:Int)<;>rfl) (kidsN_len hd _),Option.bind_some]
 rw [list_eq _ (Nat.le_trans (List.length_filter_le _ _) (kidsN_len hd _))]
 rfl
theorem beside_0 (hn:0<d.l.length)(b:Bool):Zv (some d) (pt ((0:Nat):Int)) b=some []:=by
 unfold Zv
 rw [Parent_0 hn];rfl
include hd in
theorem mem_beside {n:Nat}{x:zf}(hx:d.l[n]? =some x)(h0:n≠0)(b:Bool)(m:Nat):pt (m:Int)∈((kidsN d x.Parent.toNat).filter (keepB (n:Int) b)).map pt↔(∃ y,d.l[m]? =some y∧y.Parent=x.Parent)∧keepB (n:Int) b (m:Int)=true:=by
 have hp:=par_lt hd hx
 have hn:=(List.getElem?_eq_some_iff.1 hx).1
 have hpl:x.Parent.toNat<d.l.length:=by omega
 rw [mem_pt,List.mem_filter,mem_kids hd hpl,show ((x.Parent.toNat:Nat):Int)=x.Parent by omega]
include hd in
theorem lead9 {n:Nat}(hn:n<d.l.length):Leads d n 9 fun m=>n<m∧n≠0∧(∃ y,d.l[m]? =some y∧y.Parent=d.l[n].Parent):=by
 have hx:d.l[n]? =some d.l[n]:=List.getElem?_eq_getElem hn
 by_cases h0:n=0
 ·subst h0
  refine ⟨[],along_of hn rfl rfl ?_ rfl rfl,by simp,fun m hm=> ?_⟩
  ·show ((Zv (some d) (pt ((0:Nat):Int)) true).bind fun v8=>some v8)=_
   rw [beside_0 hn];rfl
  ·constructor
   ·intro h;cases h
   ·rintro ⟨_,h,_⟩;exact absurd rfl h
 ·refine ⟨((kidsN d d.l[n].Parent.toNat).filter (keepB (n:Int) true)).map pt,along_of hn rfl rfl ?_ rfl rfl,by rw [List.length_map];exact Nat.le_trans (List.length_filter_le _ _) (kidsN_len hd _),fun m hm=> ?_⟩
  ·show ((Zv (some d) (pt (n:Int)) true).bind fun v8=>some v8)=_
   rw [beside_eq hd hx h0];rfl
  ·rw [mem_beside hd hx h0]
   unfold keepB
   constructor
   ·rintro ⟨h1,h2⟩
    refine ⟨?_,h0,h1⟩
    simp at h2;omega
   ·rintro ⟨h1,h2,h3⟩
    refine ⟨h3,?_⟩
    simp;omega
include hd in
theorem lead10 {n:Nat}(hn:n<d.l.length):Leads d n 10 fun m=>m<n∧(∃ y,d.l[m]? =some y∧y.Parent=d.l[n].Parent):=by
 have hx:d.l[n]? =some d.l[n]:=List.getElem?_eq_getElem hn
 by_cases h0:n=0
 ·subst h0
  refine ⟨[],along_rev (l:=[]) hn rfl rfl ?_ (Or.inr ⟨rfl,rfl⟩) (by simp),by simp,fun m hm=> ?_⟩
  ·show ((Zv (some d) (pt ((0:Nat):Int)) false).bind fun v8=>some v8)=_
   rw [beside_0 hn];rfl
  ·constructor
   ·intro h;cases h
   ·rintro ⟨h,_⟩;omega
 ·have hlen:(((kidsN d d.l[n].Parent.toNat).filter (keepB (n:Int) false)).map pt).length≤1000000:=by rw [List.length_map];exact Nat.le_trans (List.length_filter_le _ _) (kidsN_len hd _)
  refine ⟨_,along_rev (l:=((kidsN d d.l[n].Parent.toNat).filter (keepB (n:Int) false)).map pt) hn rfl rfl ?_ (Or.inr ⟨rfl,rfl⟩) hlen,by rw [List.length_reverse];exact hlen,fun m hm=> ?_⟩
  ·show ((Zv (some d) (pt (n:Int)) false).bind fun v8=>some v8)=_
   rw [beside_eq hd hx h0];rfl
  ·rw [List.mem_reverse,mem_beside hd hx h0]
   unfold keepB
   constructor
   ·rintro ⟨h1,h2⟩
    refine ⟨?_,h1⟩
    simp at h2;omega
   ·rintro ⟨h1,h3⟩
    refine ⟨h3,?_⟩
    simp;omega
open Classical in
theorem turn_of {n m:Nat}(hn:n<d.l.length)(hm:m<d.l.length){a b:Int}{R S:Nat→Prop}(h1:Leads d n a R)(h2:Leads d m b S)(h:R m↔S n): ∃ l k v,qH (some d) (pt (n:Int)) a=some l∧qH (some d) (pt (m:Int)) b=some k∧qd l (pt (m:Int))=some v∧qd k (pt (n:Int))=some v:=by
 obtain ⟨l,l1,l2,l3⟩:=h1;obtain ⟨k,k1,k2,k3⟩:=h2;refine ⟨l,k,decide (pt (m:Int)∈l),l1,k1,inP_eq l _ (by omega),?_⟩
 rw [inP_eq k _ (by omega)]
 congr 1
 rw [decide_eq_decide,k3 n hn,l3 m hm]
 exact h.symm
include hd in
theorem turn_all {n m:Nat}(hn:n<d.l.length)(hm:m<d.l.length){a b:Int}(hab:a=3∧b=5∨a=4∧b=6∨a=11∧b=12∨a=9∧b=10∨a=1∧b=2): ∃ l k v,qH (some d) (pt (n:Int)) a=some l∧qH (some d) (pt (m:Int)) b=some k∧qd l (pt (m:Int))=some v∧qd k (pt (n:Int))=some v:=by
 have hxm:d.l[m]? =some d.l[m]:=List.getElem?_eq_getElem hm
 have hxn:d.l[n]? =some d.l[n]:=List.getElem?_eq_getElem hn
 rcases hab with ⟨rfl,rfl⟩|⟨rfl,rfl⟩|⟨rfl,rfl⟩|⟨rfl,rfl⟩|⟨rfl,rfl⟩
 ·refine turn_of hn hm (lead3 hd hn) (lead5 hd hm) ⟨fun h=>⟨h.2,by omega⟩,fun h=>⟨?_,h.1⟩⟩
  have:=anc_le hd h.1;omega
 ·exact turn_of hn hm (lead4 hd hn) (lead6 hd hm) Iff.rfl
 ·exact turn_of hn hm (lead11 hd hn) (lead12 hd hm) Iff.rfl
 ·refine turn_of hn hm (lead9 hd hn) (lead10 hd hm) ⟨fun h=>⟨h.1,?_⟩,fun h=>⟨h.1,?_,?_⟩⟩
  ·obtain ⟨_,_,y,y1,y2⟩:=h
   rw [hxm] at y1;cases y1
   exact ⟨_,hxn,y2.symm⟩
  ·intro e
   subst e
   obtain ⟨h,y,y1,y2⟩:=h
   rw [hxn] at y1;cases y1
   have:=root_par hd _ hxn
   have:=par_lt hd hxm
   omega
  ·obtain ⟨_,y,y1,y2⟩:=h
   rw [hxn] at y1;cases y1
   exact ⟨_,hxm,y2.symm⟩
 ·refine turn_of hn hm (lead1 hd hn) (lead2 hd hm) ⟨?_,fun h=>⟨_,hxm,h⟩⟩
  rintro ⟨x,x1,x2⟩
  rw [hxm] at x1;cases x1
  exact x2
end
theorem alongA:axis_Along_e (some dA) (zk.mk 1 2 0) 2=some [zk.mk 1 0 0]:=by kernel_rfl
theorem ofPar:axis_Of_e [112,97,114,101,110,116]=some (2,true):=by kernel_rfl
theorem awake13:Zw=some true:=by
 unfold Zw
 rw [Parse_eq,parseA,Option.bind_some]
 dsimp only
 rw [axis_Along_le _ _ _ _ alongA,axis_Of_le _ _ ofPar]
 rfl
section
variable {d:qg} (hd:DocOk d)
include hd in
theorem turns_step {n m:Nat}(hn:n<d.l.length)(hm:m<d.l.length)(e:Int){i:Nat}(hi:i<5):ql (n:Int) (m:Int) (some d,e) (i:Int)=some (.inl ((i+1:Nat):Int)):=by
 have hw:w64 ((i:Int)+1)=((i+1:Nat):Int):=zN (by omega)
 have key: ∀ a b:Int,(a=3∧b=5∨a=4∧b=6∨a=11∧b=12∨a=9∧b=10∨a=1∧b=2)→((qH (some d) (pt (n:Int)) a).bind fun v11=>(qd v11 (pt (m:Int))).bind fun v12=>(qH (some d) (pt (m:Int)) b).bind fun v13=>(qd v13 (pt (n:Int))).bind fun v14=>(bif (!(v12==v14)) then some (.inr (Sum.inl ())) else some (.inl (w64 ((i:Int)+1))):Option (Int⊕(Unit⊕Unit))))=some (.inl ((i+1:Nat):Int)):=by
  intro a b hab
  obtain ⟨l,k,v,h1,h2,h3,h4⟩:=turn_all hd hn hm hab
  simp only [h1,h2,h3,h4,Option.bind_some,beq_self_eq_true,Bool.not_true,cond_false,hw]
 have hc:decide ((i:Int)<([(ZE.mk 3 5),(ZE.mk 4 6),(ZE.mk 11 12),(ZE.mk 9 10),(ZE.mk 1 2)].length:Int))=true:=by
  rw [decide_eq_true_eq];simp only [List.length_cons,List.length_nil];omega
 unfold ql
 rw [hc,cond_true]
 have:i=0∨i=1∨i=2∨i=3∨i=4:=by omega
 rcases this with rfl|rfl|rfl|rfl|rfl
 ·exact key 3 5 (by omega)
 ·exact key 4 6 (by omega)
 ·exact key 11 12 (by omega)
 ·exact key 9 10 (by omega)
 ·exact key 1 2 (by omega)
include hd in
theorem turns_loop {n m:Nat}(hn:n<d.l.length)(hm:m<d.l.length)(e:Int):iter (ql (n:Int) (m:Int) (some d,e)) 0=some (.inr ()):=by
 have st:=fun i hi=>zw (turns_step hd hn hm e (i:=i) hi)
 rw [show (0:Int)=((0:Nat):Int) from rfl,st 0 (by omega),st 1 (by omega),st 2 (by omega),st 3 (by omega),st 4 (by omega)]
 refine zi ?_;unfold ql
 rfl
end
theorem axisTurns_plain (b:List UInt8)(n m:Int):Z1 b n m=some true:=by
 unfold Z1
 rw [awake13]
 simp only [Option.bind_some,Bool.not_true,cond_false]
 by_cases hb:(b.length:Int)>800
 ·rw [show decide ((b.length:Int)>800)=true by rw [decide_eq_true_eq];exact hb];rfl
 ·rw [show decide ((b.length:Int)>800)=false by rw [decide_eq_false_iff_not];exact hb]
  simp only [cond_false]
  obtain ⟨v,hv,h⟩:=Parse_some b
  rw [hv]
  simp only [Option.bind_some]
  obtain ⟨v1,v2⟩:=v
  rcases h with ⟨h1,h2⟩|⟨d,h1,h2,hd⟩
  ·dsimp only at h1 h2
   subst h1
   rcases h2 with h2|h2<;>subst h2<;>rfl
  ·dsimp only at h1 h2
   subst h1 h2
   dsimp only
   rw [show ((0:Int) != 0)=false from rfl,Len_eq]
   simp only [cond_false,Option.bind_some]
   by_cases g:n<0∨m<0∨n≥(d.l.length:Int)∨m≥(d.l.length:Int)
   ·have:(bif decide (n<0) then some true else bif decide (m<0) then some true else bif decide (n≥(d.l.length:Int)) then some true else some (decide (m≥(d.l.length:Int))))=some true:=by
     rcases g with g|g|g|g<;>simp only [g,decide_true,cond_true]
     ·cases decide (n<0)<;>rfl
     ·cases decide (n<0)<;>cases decide (m<0)<;>rfl
     ·cases decide (n<0)<;>cases decide (m<0)<;>cases decide (n≥(d.l.length:Int))<;>rfl
    rw [this];rfl
   ·have g1: ¬ n<0:=fun h=>g (Or.inl h)
    have g2: ¬ m<0:=fun h=>g (Or.inr (Or.inl h))
    have g3: ¬ n≥(d.l.length:Int):=fun h=>g (Or.inr (Or.inr (Or.inl h)))
    have g4: ¬ m≥(d.l.length:Int):=fun h=>g (Or.inr (Or.inr (Or.inr h)))
    simp only [g1,g2,g3,g4,decide_false,cond_false,Option.bind_some]
    rw [show n=((n.toNat:Nat):Int) by omega,show m=((m.toNat:Nat):Int) by omega,turns_loop hd (by omega) (by omega)]
    rfl
end G
