/- THE DOCUMENT, plain, fourth part: a list within its limits; the document of a list; a document read. No program, no memory. Conditions: none. -/
import Derived.Test.YtojbjdcflgeibaaGreatDoorPlain1
import Derived.KernelRfl
import Derived.Test.YtojbjdcflgeibaaGreatDoorQPure
import Derived.Test.YtojbjdcflgeibaaGreatDoorAbsM3
import Derived.WalkKit
import Derived.Lib.TrimAscii
set_option maxRecDepth 20000
set_option linter.unusedVariables false
set_option linter.unusedSimpArgs false
namespace G
open W
open Go.Lib (decodeL decodeN validD index cut contains replaceK replaceAll)
theorem within_loop (l:List ze)(hlen:l.length≤4000)(hall: ∀ y∈l,okN y)(hp:ParOk l l.length): ∀ (k i:Nat) (dp:List Int),l.length-i≤k→i≤l.length→dp.length=l.length→(∀ v∈dp,0≤v∧v≤(i:Int))→ ∃ v,iter (zJ l) ((i:Int),dp)=some v∧(v= .inr ()→ ∀ m x,i≤m→l[m]? =some x→x.Decls.length+x.Attrs.length≤64):=by
 intro k
 induction k with
 |zero=>
  intro i dp h1 h2 h3 h4
  refine ⟨.inr (),zg ?_,fun _ m x hm hx=> ?_⟩
  ·unfold zJ
   have e:decide ((i:Int)<(l.length:Int))=false:=by rw [decide_eq_false_iff_not];omega
   simp only [e,cond_false]
  ·have:=(List.getElem?_eq_some_iff.1 hx).1;omega
 |succ k ih=>
  intro i dp h1 h2 h3 h4
  by_cases hi:i<l.length
  ·have e:decide ((i:Int)<(l.length:Int))=true:=by rw [decide_eq_true_eq];omega
   have hid:i<dp.length:=by omega
   have hx:l[i]? =some l[i]:=List.getElem?_eq_getElem hi
   have hat:at' l (i:Int)=some l[i]:=z7 hi
   have hok:=hall l[i] (List.getElem_mem hi)
   generalize l[i]=x at hx hat hok
   have hsz:w64 ((x.Decls.length:Int)+(x.Attrs.length:Int))=((x.Decls.length+x.Attrs.length:Nat):Int):=by
    have:=hok.2.2.2.2.1;have:=hok.2.2.2.2.2.1
    rw [qv (by omega)];omega
   have hw:w64 ((i:Int)+1)=((i+1:Nat):Int):=qb (by omega)
   have adi:at' dp (i:Int)=some dp[i]:=z7 hid
   have bad:zJ l ((i:Int),dp)=some (.inr (.inl ()))→ ∃ v,iter (zJ l) ((i:Int),dp)=some v∧(v= .inr ()→ ∀ m x,i≤m→l[m]? =some x→x.Decls.length+x.Attrs.length≤64):=fun h=>⟨.inl (),zg h,fun h=>by cases h⟩
   have next: ∀ dp':List Int,dp'.length=l.length→(∀ v∈dp',0≤v∧v≤((i+1:Nat):Int))→x.Decls.length+x.Attrs.length≤64→zJ l ((i:Int),dp)=some (.inl (((i+1:Nat):Int),dp'))→ ∃ v,iter (zJ l) ((i:Int),dp)=some v∧(v= .inr ()→ ∀ m x,i≤m→l[m]? =some x→x.Decls.length+x.Attrs.length≤64):=fun dp' a b c h=>by
    obtain ⟨v,k1,k2⟩:=ih (i+1) dp' (by omega) (by omega) a b;refine ⟨v,by rw [zt h];exact k1,fun hv m y hm hy=> ?_⟩
    by_cases hmi:m=i
    ·subst hmi;rw [hx] at hy;cases hy;exact c
    ·exact k2 hv m y (by omega) hy
   by_cases h0:i=0
   ·subst h0
    have e0:decide (((0:Nat):Int)>0)=false:=rfl
    by_cases c1:dp[0]>64
    ·apply bad;unfold zJ
     simp only [e,cond_true,hat,Option.bind_some,e0,cond_false,adi]
     rw [show decide (dp[0]>64)=true by rw [decide_eq_true_eq];exact c1];rfl
    ·by_cases c2:x.Decls.length+x.Attrs.length>64
     ·apply bad;unfold zJ
      simp only [e,cond_true,hat,Option.bind_some,e0,cond_false,adi]
      rw [show decide (dp[0]>64)=false by rw [decide_eq_false_iff_not];exact c1,hsz,show decide (((x.Decls.length+x.Attrs.length:Nat):Int)>64)=true by rw [decide_eq_true_eq];omega];rfl
     ·refine next dp h3 (fun v hv=>by have:=h4 v hv;omega) (by omega) ?_;unfold zJ
      simp only [e,cond_true,hat,Option.bind_some,e0,cond_false,adi]
      rw [show decide (dp[0]>64)=false by rw [decide_eq_false_iff_not];exact c1,hsz,show decide (((x.Decls.length+x.Attrs.length:Nat):Int)>64)=false by rw [decide_eq_false_iff_not];omega,hw];rfl
   ·have e0:decide ((i:Int)>0)=true:=by rw [decide_eq_true_eq];omega
    obtain ⟨p0,p1⟩:=hp i x (by omega) hi hx
    have hpl:x.Parent.toNat<dp.length:=by omega
    have hpn:((x.Parent.toNat:Nat):Int)=x.Parent:=by omega
    have adp:at' dp x.Parent=some dp[x.Parent.toNat]:=by have:=z7 hpl;rwa [hpn] at this
    have hv0:=h4 _ (List.getElem_mem hpl)
    have hwp:w64 (dp[x.Parent.toNat]+1)=dp[x.Parent.toNat]+1:=qv (by omega)
    have hput:put dp (i:Int) (dp[x.Parent.toNat]+1)=some (dp.set i (dp[x.Parent.toNat]+1)):=put_of hid _
    have ads:at' (dp.set i (dp[x.Parent.toNat]+1)) (i:Int)=some (dp[x.Parent.toNat]+1):=by
     have:=z7 (l:=dp.set i (dp[x.Parent.toNat]+1)) (i:=i) (by rw [List.length_set];exact hid)
     rw [this,List.getElem_set_self]
    have st:zJ l ((i:Int),dp)=(bif decide (dp[x.Parent.toNat]+1>64) then some (.inr (.inl ())) else (bif decide (((x.Decls.length+x.Attrs.length:Nat):Int)>64) then some (.inr (.inl ())) else some (.inl (((i+1:Nat):Int),dp.set i (dp[x.Parent.toNat]+1))))):=by
     unfold zJ
     simp only [e,cond_true,hat,Option.bind_some,e0,adp,adi,hwp,hput,ads,hsz,hw]
    by_cases c1:dp[x.Parent.toNat]+1>64
    ·apply bad
     rw [st,show decide (dp[x.Parent.toNat]+1>64)=true by rw [decide_eq_true_eq];exact c1];rfl
    ·rw [show decide (dp[x.Parent.toNat]+1>64)=false by rw [decide_eq_false_iff_not];exact c1] at st
     by_cases c2:x.Decls.length+x.Attrs.length>64
     ·apply bad
      rw [st,show decide (((x.Decls.length+x.Attrs.length:Nat):Int)>64)=true by rw [decide_eq_true_eq];omega];rfl
     ·rw [show decide (((x.Decls.length+x.Attrs.length:Nat):Int)>64)=false by rw [decide_eq_false_iff_not];omega] at st
      refine next _ (by rw [List.length_set];exact h3) (fun v hv=> ?_) (by omega) st
      rcases List.mem_or_eq_of_mem_set hv with h|h
      ·have:=h4 v h;omega
      ·omega
  ·refine ⟨.inr (),zg ?_,fun _ m x hm hx=> ?_⟩
   ·unfold zJ
    have e:decide ((i:Int)<(l.length:Int))=false:=by rw [decide_eq_false_iff_not];omega
    simp only [e,cond_false]
   ·have:=(List.getElem?_eq_some_iff.1 hx).1;omega
theorem within_some (l:List ze)(hall: ∀ y∈l,okN y)(hp:ParOk l l.length): ∃ v,zas l=some v∧(v=true→l.length≤4000∧ ∀ x∈l,x.Decls.length+x.Attrs.length≤64):=by
 unfold zas
 by_cases h:l.length>4000
 ·rw [show decide ((l.length:Int)>4000)=true by rw [decide_eq_true_eq];omega]
  exact ⟨false,rfl,fun h=>by cases h⟩
 ·rw [show decide ((l.length:Int)>4000)=false by rw [decide_eq_false_iff_not];omega]
  obtain ⟨dp,hdp,hl,h0⟩: ∃ dp:List Int,mk 8 (l.length:Int) 0=some dp∧dp.length=l.length∧ ∀ v∈dp,v=0:=⟨_,mk_of 0 (by omega),by rw [List.length_replicate];omega,fun v hv=>(List.mem_replicate.1 hv).2⟩;obtain ⟨v,k1,k2⟩:=within_loop l (by omega) hall hp l.length 0 dp (by omega) (by omega) hl (fun v hv=>by rw [h0 v hv];decide)
  rw [hdp]
  simp only [cond_false,Option.bind_some]
  rw [show iter (zJ l) (0,dp)=_ from k1]
  cases v with
  |inl u=>exact ⟨false,rfl,fun h=>by cases h⟩
  |inr u=>exact ⟨true,rfl,fun _=>⟨by omega,fun x hx=>by
   obtain ⟨m,hm⟩:=List.getElem?_of_mem hx
   exact k2 rfl m x (Nat.zero_le _) hm⟩⟩
theorem cloneD_eq (x:ze)(h:okN x):doc_clone x=some (x.Kind,x.Parent,x.Prefix,x.Local,x.URI,x.Text,x.Decls,x.Attrs):=by
 have h1:=h.2.2.2.2.1;have h2:=h.2.2.2.2.2.1
 unfold doc_clone ZI JO
 rw [Z3 (by simp;omega),Z3 (by simp;omega)];rfl
theorem copy_loop (l:List ze)(hall: ∀ y∈l,okN y)(hlen:l.length≤1073741824): ∀ (k i:Nat),l.length-i≤k→i≤l.length→iter (zau l) ((i:Int),l.take i)=some l:=by
 intro k
 induction k with
 |zero=>
  intro i h1 h2
  refine zg ?_;unfold zau
  have e:decide ((i:Int)<(l.length:Int))=false:=by rw [decide_eq_false_iff_not];omega
  rw [List.take_of_length_le (by omega)]
  simp only [e,cond_false]
 |succ k ih=>
  intro i h1 h2
  by_cases hi:i<l.length
  ·have e:decide ((i:Int)<(l.length:Int))=true:=by rw [decide_eq_true_eq];omega
   have k1:=ih (i+1) (by omega) (by omega)
   rw [List.take_succ_eq_append_getElem hi] at k1
   rw [←k1]
   refine zt ?_;unfold zau
   simp only [e,cond_true]
   rw [z7 hi]
   simp only [Option.bind_some]
   rw [cloneD_eq _ (hall _ (List.getElem_mem hi))]
   simp only [Option.bind_some]
   rw [Z3 (by simp;omega)]
   simp only [Option.bind_some]
   rw [qb (by omega)]
  ·refine zg ?_;unfold zau
   have e:decide ((i:Int)<(l.length:Int))=false:=by rw [decide_eq_false_iff_not];omega
   rw [List.take_of_length_le (by omega)]
   simp only [e,cond_false]
theorem end_loop (l:List ze){t:Int}(hL:ListOk l t)(hlen:l.length≤1073741824): ∀ (k:Nat) (en:List Int),k≤l.length→EInv l k en→ ∃ en',iter (zay l) ((k:Int)-1,en)=some en'∧EInv l 0 en':=by
 intro k
 induction k with
 |zero=>
  intro en h1 h2
  exact ⟨en,zg rfl,h2⟩
 |succ k ih=>
  intro en h1 h2
  rw [show (((k+1:Nat):Int)-1)=(k:Int) by omega]
  have hk:k<l.length:=by omega
  have hke:k<en.length:=by have:=h2.len;omega
  have e:decide ((k:Int)≥0)=true:=by simp
  have hx:l[k]? =some l[k]:=List.getElem?_eq_getElem hk
  have hat:at' l (k:Int)=some l[k]:=z7 hk
  generalize l[k]=x at hx hat
  have hst:=h2.step hL hk hx
  have ake:at' en (k:Int)=some (gz en k):=by rw [z7 hke,gz_get hke]
  have pke: ∀ v,put en (k:Int) v=some (en.set k v):=fun v=>put_of hke v
  have hwk:w64 ((k:Int)-1)=(k:Int)-1:=qv (by omega)
  have hwk1:w64 ((k:Int)+1)=(k:Int)+1:=qv (by omega)
  by_cases hpar:x.Parent≥0
  ·have hkp:0<k:=by
    rcases Nat.eq_zero_or_pos k with h|h
    ·subst h
     obtain ⟨r',r1,_,r2,_⟩:=hL.root
     rw [r1] at hx;cases hx;omega
    ·exact h
   obtain ⟨p0,p1⟩:=(hL.node k x hkp hk hx).par
   have hpn:((x.Parent.toNat:Nat):Int)=x.Parent:=by omega
   have hs:=hst.1 hpar
   have hEl:(en.set k (mx (gz en k) ((k:Int)+1))).length=l.length:=by rw [List.length_set];exact h2.len
   obtain ⟨en',k1,k2⟩:=ih _ (by omega) hs;refine ⟨en',?_,k2⟩
   rw [←k1]
   refine zt ?_;unfold zay
   simp only [e,cond_true,ake,Option.bind_some,pke,hat,hwk1]
   rw [show decide (x.Parent≥0)=true by rw [decide_eq_true_eq];exact hpar]
   generalize en.set k (mx (gz en k) ((k:Int)+1))=E at hEl ⊢
   have hpl:x.Parent.toNat<E.length:=by omega
   have hkl:k<E.length:=by omega
   have a1:at' E x.Parent=some (gz E x.Parent.toNat):=by have:=z7 hpl;rw [hpn] at this;rw [this,gz_get hpl]
   have a2:at' E (k:Int)=some (gz E k):=by rw [z7 hkl,gz_get hkl]
   have p1': ∀ v,put E x.Parent v=some (E.set x.Parent.toNat v):=fun v=>by have:=put_of hpl v;rwa [hpn] at this
   simp only [cond_true,a1,a2,p1',Option.bind_some,hwk]
  ·obtain ⟨en',k1,k2⟩:=ih _ (by omega) (hst.2 hpar);refine ⟨en',?_,k2⟩
   rw [←k1]
   refine zt ?_;unfold zay
   simp only [e,cond_true,ake,Option.bind_some,pke,hat,hwk1]
   rw [show decide (x.Parent≥0)=false by rw [decide_eq_false_iff_not];exact hpar]
   simp only [cond_false,hwk]
structure DocOk (d:Zb):Prop where
 list:ListOk d.l d.top
 many:d.l.length≤4000
 few: ∀ x∈d.l,x.Decls.length+x.Attrs.length≤64
 size: ∀ x∈d.l,okN x
 ends:EndOk d.l d.end_
theorem Of_some (l:List ze)(hall: ∀ y∈l,okN y)(hlen:l.length≤1073741824):doc_Of l=some (none,2)∨doc_Of l=some (none,3)∨ ∃ d,doc_Of l=some (some d,0)∧d.l=l∧DocOk d:=by
 obtain ⟨v,c1,c2⟩:=check_some l hall hlen;unfold doc_Of
 rw [c1]
 simp only [Option.bind_some]
 cases h:v.2 with
 |false=>exact Or.inl rfl
 |true=>
  have hL:=c2 h
  obtain ⟨r,h0,_,hr,_⟩:=hL.root
  have hp:ParOk l l.length:=fun m x a b c=>(hL.node m x a b c).par
  obtain ⟨w,w1,w2⟩:=within_some l hall hp
  simp only [Bool.not_true,cond_false,w1,Option.bind_some]
  cases hw:w with
  |false=>exact Or.inr (Or.inl rfl)
  |true=>
   obtain ⟨m1,m2⟩:=w2 hw
   right;right
   obtain ⟨en,hen,hel,he0⟩: ∃ en:List Int,mk 8 (l.length:Int) 0=some en∧en.length=l.length∧ ∀ j,gz en j=0:=⟨_,mk_of 0 (by omega),by rw [List.length_replicate];omega,fun j=>by unfold gz;rw [List.getElem?_replicate];split<;>rfl⟩
   have hc:=copy_loop l hall hlen l.length 0 (by omega) (by omega)
   rw [List.take_zero] at hc
   have hI:EInv l l.length en:=⟨hel,fun j _=>Or.inl (he0 j),fun j a b=>by omega,fun c x a b hc=>by have:=(List.getElem?_eq_some_iff.1 hc).1;omega⟩
   obtain ⟨en',e1,e2⟩:=end_loop l hL hlen l.length en (Nat.le_refl _) hI
   have hl1:1≤l.length:=by have:=(List.getElem?_eq_some_iff.1 h0).1;omega
   refine ⟨Zb.mk l en' v.1,?_,rfl,⟨hL,m1,m2,hall,e2.done hL⟩⟩
   simp only [Bool.not_true,cond_false]
   rw [hen,Option.bind_some,show iter (zau l) (0,[])=some l from hc,Option.bind_some,qv (by omega),e1,Option.bind_some]
theorem replK_text (old new:Str)(hold:old≠[])(ho: ∀ b∈old,b.toNat<128)(hn:textB new=true): ∀ (k:Nat) (s:Str),textB s=true→textB (replaceK old new k s)=true:=by
 intro k
 induction k with
 |zero=>intro s h;exact h
 |succ k ih=>
  intro s h
  unfold replaceK
  split
  ·exact h
  ·rename_i hm
   have hge:=Go.Lib.index_ge s old
   have h0:0≤index s old:=by
    have:index s old≠ -1:=by simpa using hm
    omega
   have hc:(cut s old).2.2=true:=by unfold Go.Lib.cut;rw [if_pos h0]
   obtain ⟨t1,t2⟩:=cut_text (q:=old) ho hold h
   have t2:=t2 hc
   have e1:(cut s old).1=s.take (index s old).toNat:=by unfold Go.Lib.cut;rw [if_pos h0]
   have e2:(cut s old).2.1=s.drop ((index s old).toNat+old.length):=by unfold Go.Lib.cut;rw [if_pos h0]
   rw [e1] at t1
   rw [e2] at t2
   have:=ih _ t2
   rw [List.append_assoc,textB_app _ _ _ (Nat.le_refl _) t1,textB_app _ _ _ (Nat.le_refl _) hn]
   exact this
theorem lines_text {s:Str}(h:textB s=true):textB (lines s)=true:=by
 have one: ∀ (old new s:Str),old≠[]→(∀ b∈old,b.toNat<128)→textB new=true→textB s=true→textB (replaceAll s old new)=true:=fun old new s a b c d=>by
  unfold replaceAll Go.Lib.replace
  split
  ·exact d
  ·exact replK_text old new a b c _ s d
 have t10:textB [10]=true:=by rw [textB_cons 10 [] (by decide)];rfl
 exact one [13] [10] _ (by simp) (by decide) t10 (one [13,10] [10] s (by simp) (by decide) t10 h)
theorem Parse_some (b:Str): ∃ v,Jh b=some v∧((v.1=none∧(v.2=2∨v.2=3))∨(∃ d,v.1=some d∧v.2=0∧DocOk d)):=by
 unfold Jh
 by_cases hb:b.length>65536
 ·rw [show decide ((b.length:Int)>65536)=true by rw [decide_eq_true_eq];omega]
  exact ⟨(none,3),rfl,Or.inl ⟨rfl,Or.inr rfl⟩⟩
 ·rw [show decide ((b.length:Int)>65536)=false by rw [decide_eq_false_iff_not];omega,Text_eq b (by omega)]
  simp only [cond_false,Option.bind_some]
  cases ht:textB b with
  |false=>exact ⟨(none,2),rfl,Or.inl ⟨rfl,Or.inl rfl⟩⟩
  |true=>
   have hl:=lines_len b
   rw [Lines_eq b (by omega)]
   simp only [Bool.not_true,cond_false,Option.bind_some]
   obtain ⟨v3,d1,d2,d3⟩:=declaration_eq true false [(ze.mk 0 (-1) [] [] [] [] [] [])] [] [] (lines b) (by omega) (lines_text ht)
   rw [d1]
   simp only [Option.bind_some]
   cases h3:v3.1 with
   |false=>exact ⟨(none,2),rfl,Or.inl ⟨rfl,Or.inl rfl⟩⟩
   |true=>
    obtain ⟨l3,t3⟩:=d3 h3
    have hI:Inv 65536 v3.2 [(ze.mk 0 (-1) [] [] [] [] [] [])] [] []:=⟨t3,by simp;omega,by simp,by simp,(fun o ho=>by cases ho),(fun y hy=>by
     obtain rfl:=List.mem_singleton.1 hy
     exact ⟨Nat.zero_le _,Nat.zero_le _,Nat.zero_le _,Nat.zero_le _,Nat.zero_le _,Nat.zero_le _,by simp,by simp⟩),by simp;omega⟩
    obtain ⟨r1,r2⟩:=run_loop (N:=65536) (by omega) (v3.2.length+1) v3.2 true [(ze.mk 0 (-1) [] [] [] [] [] [])] [] [] (by omega) hI
    simp only [Bool.not_true,cond_false]
    rw [r1]
    cases hq:runL (v3.2.length+1) v3.2 true [(ze.mk 0 (-1) [] [] [] [] [] [])] [] [] with
    |none=>exact ⟨(none,2),rfl,Or.inl ⟨rfl,Or.inl rfl⟩⟩
    |some q=>
     obtain ⟨nb',l',p',x',rfl,hI'⟩:=r2 q hq
     simp only [Option.bind_some,Sum.elim_inr]
     by_cases hp:p'=[]
     ·subst hp
      simp only [List.length_nil,show decide ((((0:Nat):Int))>0)=false from rfl,cond_false]
      have hl':=hI'.hl
      rcases Of_some l' hI'.hn (by simp at hl';omega) with h|h|⟨d,h,h',hd⟩
      ·rw [h];exact ⟨(none,2),rfl,Or.inl ⟨rfl,Or.inl rfl⟩⟩
      ·rw [h];exact ⟨(none,3),rfl,Or.inl ⟨rfl,Or.inr rfl⟩⟩
      ·rw [h];exact ⟨(some d,0),rfl,Or.inr ⟨d,rfl,rfl,hd⟩⟩
     ·have:0<p'.length:=List.length_pos_iff.2 hp
      rw [show decide ((p'.length:Int)>0)=true by rw [decide_eq_true_eq];omega]
      exact ⟨(none,2),rfl,Or.inl ⟨rfl,Or.inl rfl⟩⟩
def targetB:Str→Bool
 |[a,b,c]=>(a.toNat==120||a.toNat==88)&&((b.toNat==109||b.toNat==77)&&(c.toNat==108||c.toNat==76))
 |_=>false
theorem i_n (c:UInt8)(n:Nat):((c.toNat:Int)==(n:Int))=(c.toNat==n):=by
 rw [Bool.eq_iff_iff];simp only [beq_iff_eq];omega
theorem target_eq (s:Str):zap s=some (targetB s):=by
 unfold zap
 by_cases h:s.length=3
 ·obtain ⟨a,b,c,rfl⟩: ∃ a b c,s=[a,b,c]:=by
   match s,h with
   |[a,b,c],_=>exact ⟨a,b,c,rfl⟩
  have a0:at' [a,b,c] 0=some a:=rfl
  have a1:at' [a,b,c] 1=some b:=rfl
  have a2:at' [a,b,c] 2=some c:=rfl
  have e1:((a.toNat:Int)==120)=(a.toNat==120):=i_n a 120
  have e2:((a.toNat:Int)==88)=(a.toNat==88):=i_n a 88
  have e3:((b.toNat:Int)==109)=(b.toNat==109):=i_n b 109
  have e4:((b.toNat:Int)==77)=(b.toNat==77):=i_n b 77
  have e5:((c.toNat:Int)==108)=(c.toNat==108):=i_n c 108
  have e6:((c.toNat:Int)==76)=(c.toNat==76):=i_n c 76
  rw [show ((([a,b,c]:Str).length:Int)==3)=true from rfl]
  simp only [cond_true,a0,a1,a2,Option.bind_some,e1,e2,e3,e4,e5,e6,targetB]
  cases a.toNat==120<;>cases a.toNat==88<;>cases b.toNat==109<;>cases b.toNat==77<;>cases c.toNat==108<;>rfl
 ·rw [show ((s.length:Int)==3)=false by rw [beq_eq_false_iff_ne];omega]
  have:targetB s=false:=by
   unfold targetB
   split
   ·exact absurd rfl h
   ·rfl
  rw [this];rfl
def kindAt (l:List ze)(n:Int):Int:=match l[n.toNat]? with
 |some z=>z.Kind
 |none=>0
def blank1:Str→Bool
 |[]=>false
 |c::_=>isB c
def formedB (l:List ze)(n:Nat)(last:Int)(x:ze):Bool:=
 if x.Kind=1 then x.Text==[]&&(declaredB x.Decls&&namedB l n x)
 else bareB x&&(if x.Kind=2 then x.Local==[]&&(!(x.Text==[])&&(textB x.Text&&(decide (last<0)||kindAt l last != 2)))
  else if x.Kind=3 then x.Local==[]&&(textB x.Text&&(!contains x.Text [45,45]&& !(decide ((1:Nat)≤x.Text.length)&&(x.Text.drop (x.Text.length-1)==[45]))))
  else if x.Kind=4 then nameB x.Local&&(!targetB x.Local&&(textB x.Text&&(!contains x.Text [63,62]&& !blank1 x.Text)))
  else false)
theorem formed_eq (l:List ze)(n:Nat)(x:ze)(last:Int)(hn:l[n]? =some x)(hall: ∀ y∈l,okN y)(hp:ParOk l (n+1))(hla:last<(l.length:Int)):zaq l (n:Int) last=some (formedB l n last x):=by
 have hx:=hall x (List.mem_of_getElem? hn)
 unfold zaq formedB
 rw [Q1,hn]
 simp only [Option.bind_some]
 by_cases k1:x.Kind=1
 ·rw [beq_iff_eq.2 k1,if_pos k1]
  simp only [cond_true]
  rw [declared_eq _ hx.2.2.2.2.1 hx.2.2.2.2.2.2.1,dnamed_eq l n x hn hall hp]
  simp only [Option.bind_some]
  cases x.Text==[]<;>cases declaredB x.Decls<;>rfl
 ·rw [beq_eq_false_iff_ne.2 k1,if_neg k1]
  simp only [cond_false,bare_eq,Option.bind_some]
  rw [dtext_eq _ hx.2.2.2.1,Jj _ _ (by have:=hx.2.2.2.1;omega),Jj _ _ (by have:=hx.2.2.2.1;omega),HasSuffix_eq _ _ hx.2.2.2.1,Is_eq x.Local (by have:=hx.2.1;omega),target_eq]
  simp only [Option.bind_some]
  have hbl:((bif (!(x.Text==[])) then (at' x.Text 0).bind fun v11=>(QA v11).bind fun v12=>some v12 else some false):Option Bool)=some (blank1 x.Text):=by
   cases x.Text with
   |nil=>rfl
   |cons c r=>
    have a0:at' (c::r) 0=some c:=rfl
    rw [show (!((c::r:Str)==[]))=true from rfl]
    simp only [cond_true,a0,Option.bind_some,Blank_eq];rfl
  rw [hbl]
  have hl:((bif decide (last<0) then some true else (at' l last).bind fun v6=>some (v6.Kind != 2)):Option Bool)=some (decide (last<0)||kindAt l last != 2):=by
   by_cases h0:last<0
   ·rw [show decide (last<0)=true by rw [decide_eq_true_eq];exact h0];rfl
   ·rw [show decide (last<0)=false by rw [decide_eq_false_iff_not];exact h0]
    obtain ⟨m,rfl⟩: ∃ m:Nat,last=(m:Int):=⟨last.toNat,by omega⟩
    have hm:m<l.length:=by omega
    simp only [cond_false]
    rw [z7 hm]
    unfold kindAt
    rw [Int.toNat_natCast,List.getElem?_eq_getElem hm];rfl
  rw [hl]
  by_cases k2:x.Kind=2
  ·rw [beq_iff_eq.2 k2,if_pos k2]
   cases bareB x<;>cases x.Local==[]<;>cases x.Text==[]<;>cases textB x.Text<;>rfl
  ·rw [beq_eq_false_iff_ne.2 k2,if_neg k2]
   by_cases k3:x.Kind=3
   ·rw [beq_iff_eq.2 k3,if_pos k3]
    cases bareB x<;>cases x.Local==[]<;>cases textB x.Text<;>cases contains x.Text [45,45]<;>rfl
   ·rw [beq_eq_false_iff_ne.2 k3,if_neg k3]
    by_cases k4:x.Kind=4
    ·rw [beq_iff_eq.2 k4,if_pos k4]
     cases bareB x<;>cases nameB x.Local<;>cases targetB x.Local<;>cases textB x.Text<;>cases contains x.Text [63,62]<;>rfl
    ·rw [beq_eq_false_iff_ne.2 k4,if_neg k4]
     cases bareB x<;>rfl
def standsF (l:List ze)(px:Int):Nat→Int→Bool
 |0,_=>false
 |k+1,y=>if y<0 then false else match l[y.toNat]? with
  |none=>false
  |some z=>if y=px then z.Kind==0||z.Kind==1 else standsF l px k z.Parent
theorem standsF_loop (l:List ze)(n:Nat)(x r:ze)(hx:l[n]? =some x)(h0:l[0]? =some r)(hr:r.Parent= -1)(hp:ParOk l n): ∀ (k y:Nat),y+1<k→y<n→((iter (ZW l (n:Int)) (y:Int)).bind (Sum.elim (fun (q6:Bool)=>some q6) (fun (q7:Unit)=>some false)))=some (standsF l x.Parent k (y:Int)):=by
 have hn:n<l.length:=(List.getElem?_eq_some_iff.1 hx).1
 have hat:at' l (n:Int)=some x:=by rw [Q1,hx]
 intro k
 induction k with
 |zero=>intro y h;omega
 |succ k ih=>
  intro y h hy
  have hyl:y<l.length:=by omega
  have e:decide ((y:Int)≥0)=true:=by simp
  have hay:at' l (y:Int)=some l[y]:=z7 hyl
  unfold standsF
  rw [if_neg (by omega),Int.toNat_natCast,List.getElem?_eq_getElem hyl]
  dsimp only
  by_cases hq:(y:Int)=x.Parent
  ·rw [if_pos hq,zg (q:= .inl (l[y].Kind==0||l[y].Kind==1)) (by
    unfold ZW
    simp only [e,cond_true,hat,Option.bind_some]
    rw [beq_iff_eq.2 hq]
    simp only [cond_true,hay,Option.bind_some]
    cases l[y].Kind==0<;>rfl)];rfl
  ·rw [if_neg hq,zt (s':=l[y].Parent) (by
    unfold ZW
    simp only [e,cond_true,hat,Option.bind_some]
    rw [beq_eq_false_iff_ne.2 hq]
    simp only [cond_false,hay,Option.bind_some])]
   by_cases y0:y=0
   ·subst y0
    have:l[0]=r:=by rw [List.getElem?_eq_getElem hyl] at h0;exact Option.some.inj h0
    rw [this,hr,zg (q:= .inr ()) rfl]
    cases k with
    |zero=>omega
    |succ k=>rfl
   ·obtain ⟨p0,p1⟩:=hp y l[y] (by omega) hy (List.getElem?_eq_getElem hyl)
    have hpn:((l[y].Parent.toNat:Nat):Int)=l[y].Parent:=by omega
    have:=ih l[y].Parent.toNat (by omega) (by omega)
    rw [hpn] at this
    exact this
theorem stands_eq2 (l:List ze)(n:Nat)(x r:ze)(hx:l[n]? =some x)(h0:l[0]? =some r)(hr:r.Parent= -1)(hp:ParOk l n)(h1:1≤n)(hn:n<4611686018427387904):zao l (n:Int)=some (standsF l x.Parent (n+1) ((n-1:Nat):Int)):=by
 unfold zao
 rw [show w64 ((n:Int)-1)=((n-1:Nat):Int) by rw [qv (by omega)];omega]
 exact standsF_loop l n x r hx h0 hr hp (n+1) (n-1) (by omega) (by omega)
def chkF (l:List ze):Nat→Nat→Int→List Int→Option Int
 |0,_,_,_=>none
 |k+1,n,t,last=>match l[n]? with
  |none=>some t
  |some x=>if standsF l x.Parent (n+1) ((n-1:Nat):Int)&&(formedB l n (gz last x.Parent.toNat) x&&(!(x.Parent==0)|| !(x.Kind==2))) then
   (if x.Parent=0∧x.Kind=1 then (if t>0 then none else chkF l k (n+1) (n:Int) (last.set x.Parent.toNat (n:Int))) else chkF l k (n+1) t (last.set x.Parent.toNat (n:Int)))
   else none
def ansC:Option Int→Unit⊕Int
 |none=> .inl ()
 |some q=> .inr q
theorem chk_loop (l:List ze)(r:ze)(h0:l[0]? =some r)(hr:r.Parent= -1)(hall: ∀ y∈l,okN y)(hlen:l.length<4611686018427387904): ∀ (k n:Nat) (t:Int) (last:List Int),l.length-n<k→1≤n→n≤l.length→ParOk l n→last.length=l.length→(∀ v∈last,v<(n:Int))→
 iter (zE l) (t,((n:Int),last))=some (ansC (chkF l k n t last)):=by
 intro k
 induction k with
 |zero=>intro n t last h1;omega
 |succ k ih=>
  intro n t last h1 h2 h3 hp h5 h6
  unfold chkF
  by_cases hn:n<l.length
  ·have e:decide ((n:Int)<(l.length:Int))=true:=by rw [decide_eq_true_eq];omega
   have hx:l[n]? =some l[n]:=List.getElem?_eq_getElem hn
   rw [hx]
   dsimp only
   generalize l[n]=x at hx
   have hat:at' l (n:Int)=some x:=by rw [Q1,hx]
   have s1:=stands_eq2 l n x r hx h0 hr hp h2 (by omega)
   obtain ⟨v,s2,s3⟩:=stands_some l n x r hx h0 hr hp h2 (by omega)
   have hv:v=standsF l x.Parent (n+1) ((n-1:Nat):Int):=by rw [s1] at s2;exact (Option.some.inj s2).symm
   rw [←hv] at s1 ⊢
   cases hvc:v with
   |false=>
    rw [hvc] at s1
    simp only [Bool.false_and]
    refine zg ?_;unfold zE
    simp only [e,cond_true,s1,Option.bind_some,Bool.not_false];rfl
   |true=>
    rw [hvc] at s1
    obtain ⟨p0,p1,p2,p3⟩:=s3 hvc
    have hpn:((x.Parent.toNat:Nat):Int)=x.Parent:=by omega
    have hpl:x.Parent.toNat<last.length:=by omega
    have hla:at' last x.Parent=some (gz last x.Parent.toNat):=by have:=z7 hpl;rw [hpn] at this;rw [this,gz_get hpl]
    have hlv:gz last x.Parent.toNat<(n:Int):=by rw [gz_get hpl];exact h6 _ (List.getElem_mem hpl)
    have hp1:ParOk l (n+1):=fun m y a b c=>by
     by_cases hm:m=n
     ·subst hm;rw [hx] at c;cases c;exact ⟨p0,p1⟩
     ·exact hp m y a (by omega) c
    have f1:=formed_eq l n x (gz last x.Parent.toNat) hx hall hp1 (by omega)
    have hun:doc_under x=some (!(x.Parent==0)|| !(x.Kind==2)):=by
     unfold doc_under
     by_cases hz:x.Parent=0
     ·rw [hz];rfl
     ·rw [show (x.Parent != 0)=true by simpa using hz,beq_eq_false_iff_ne.2 hz];rfl
    simp only [Bool.true_and]
    cases hf:formedB l n (gz last x.Parent.toNat) x with
    |false=>
     rw [hf] at f1
     refine zg ?_;unfold zE
     simp only [e,cond_true,s1,Option.bind_some,Bool.not_true,cond_false,hat,hla,f1,Bool.not_false];rfl
    |true=>
     rw [hf] at f1
     simp only [Bool.true_and]
     cases hu:(!(x.Parent==0)|| !(x.Kind==2)) with
     |false=>
      rw [hu] at hun
      refine zg ?_;unfold zE
      simp only [e,cond_true,s1,Option.bind_some,Bool.not_true,cond_false,hat,hla,f1,hun,Bool.not_false];rfl
     |true=>
      rw [hu] at hun
      rw [if_pos rfl]
      have hput:put last x.Parent (n:Int)=some (last.set x.Parent.toNat (n:Int)):=by have:=put_of hpl (n:Int);rwa [hpn] at this
      have h5':(last.set x.Parent.toNat (n:Int)).length=l.length:=by rw [List.length_set];exact h5
      have h6': ∀ v∈last.set x.Parent.toNat (n:Int),v<((n+1:Nat):Int):=fun v hv=>by
       rcases List.mem_or_eq_of_mem_set hv with h|h
       ·have:=h6 v h;omega
       ·omega
      have hw:w64 ((n:Int)+1)=((n+1:Nat):Int):=qb (by omega)
      by_cases hz:x.Parent=0
      ·by_cases hk:x.Kind=1
       ·rw [if_pos ⟨hz,hk⟩]
        by_cases ht:t>0
        ·rw [if_pos ht]
         refine zg ?_;unfold zE
         simp only [e,cond_true,s1,Option.bind_some,Bool.not_true,cond_false,hat,hla,f1,hun]
         rw [beq_iff_eq.2 hz,beq_iff_eq.2 hk,show decide (t>0)=true by rw [decide_eq_true_eq];exact ht];rfl
        ·rw [if_neg ht,←ih (n+1) (n:Int) _ (by omega) (by omega) (by omega) hp1 h5' h6']
         refine zt ?_;unfold zE
         simp only [e,cond_true,s1,Option.bind_some,Bool.not_true,cond_false,hat,hla,f1,hun]
         rw [beq_iff_eq.2 hz,beq_iff_eq.2 hk,show decide (t>0)=false by rw [decide_eq_false_iff_not];exact ht]
         simp only [cond_true,cond_false,hput,Option.bind_some,hw]
       ·rw [if_neg (fun h=>hk h.2),←ih (n+1) t _ (by omega) (by omega) (by omega) hp1 h5' h6']
        refine zt ?_;unfold zE
        simp only [e,cond_true,s1,Option.bind_some,Bool.not_true,cond_false,hat,hla,f1,hun]
        rw [beq_iff_eq.2 hz,beq_eq_false_iff_ne.2 hk]
        simp only [cond_true,cond_false,hput,Option.bind_some,hw]
      ·rw [if_neg (fun h=>hz h.1),←ih (n+1) t _ (by omega) (by omega) (by omega) hp1 h5' h6']
       refine zt ?_;unfold zE
       simp only [e,cond_true,s1,Option.bind_some,Bool.not_true,cond_false,hat,hla,f1,hun]
       rw [beq_eq_false_iff_ne.2 hz]
       simp only [cond_false,hput,Option.bind_some,hw]
  ·obtain rfl:n=l.length:=by omega
   rw [List.getElem?_eq_none (Nat.le_refl _)]
   refine zg ?_;unfold zE
   have e:decide ((l.length:Int)<(l.length:Int))=false:=by simp
   simp only [e,cond_false];rfl
def checkL:List ze→Int×Bool
 |[]=>(0,false)
 |r::l'=>bif rootB r then headV (ansC (chkF (r::l') (l'.length+2) 1 0 (List.replicate (l'.length+1) (-1)))) else (0,false)
theorem all_replicate: ∀ (n:Nat) (d:List Int),d.length=n→(∀ v∈d,v= -1)→d=List.replicate n (-1)
 |0,d,h,_=>List.length_eq_zero_iff.1 h
 |n+1,d,h,hv=>by
  cases d with
  |nil=>cases h
  |cons a d=>
   rw [List.replicate_succ,hv a (by simp),←all_replicate n d (by simpa using h) (fun v hv'=>hv v (by simp [hv']))]
theorem check_eq (l:List ze)(hall: ∀ y∈l,okN y)(hlen:l.length≤1073741824):J6 l=some (checkL l):=by
 cases l with
 |nil=>rfl
 |cons r l'=>
  show _=some (bif rootB r then headV (ansC (chkF (r::l') (l'.length+2) 1 0 (List.replicate (l'.length+1) (-1)))) else (0,false))
  cases hr:rootB r with
  |false=>rw [head_false r l' hr,cond_false]
  |true=>
   have hr':=hr
   simp only [rootB,Bool.and_eq_true,beq_iff_eq] at hr
   obtain ⟨k0,k1,k2,k3,k4⟩:=hr;obtain ⟨v8,hv8,hl8⟩: ∃ v8:List Int,mk 8 (((r::l':List ze).length:Nat):Int) 0=some v8∧v8.length=(r::l').length:=⟨_,mk_of 0 (by omega),by rw [List.length_replicate];omega⟩;obtain ⟨d',f1,f2,f3⟩:=fill_loop v8 (by omega) v8.length 0 v8 (by omega) (by omega) rfl (by simp)
   have hd':=all_replicate (l'.length+1) d' (by rw [f2,hl8];rfl) f3
   have c:=chk_loop (r::l') r rfl k1 hall (by omega) (l'.length+2) 1 0 d' (by simp) (Nat.le_refl _) (by simp) (fun m x a b=>by omega) (by rw [f2,hl8]) (fun v hv=>by rw [f3 v hv];decide)
   rw [head_true r l' hr' v8 d' _ hv8 f1 c,cond_true,hd']
def wiF (l:List ze):Nat→Nat→List Int→Bool
 |0,_,_=>false
 |k+1,i,dp=>match l[i]? with
  |none=>true
  |some x=>if i=0 then (if gz dp 0>64∨x.Decls.length+x.Attrs.length>64 then false else wiF l k (i+1) dp)
   else (if gz dp x.Parent.toNat+1>64∨x.Decls.length+x.Attrs.length>64 then false else wiF l k (i+1) (dp.set i (gz dp x.Parent.toNat+1)))
def ansW:Bool→Unit⊕Unit
 |true=> .inr ()
 |false=> .inl ()
theorem wi_loop (l:List ze)(hlen:l.length≤4000)(hall: ∀ y∈l,okN y)(hp:ParOk l l.length): ∀ (k i:Nat) (dp:List Int),l.length-i<k→i≤l.length→dp.length=l.length→(∀ v∈dp,0≤v∧v≤(i:Int))→iter (zJ l) ((i:Int),dp)=some (ansW (wiF l k i dp)):=by
 intro k
 induction k with
 |zero=>intro i dp h;omega
 |succ k ih=>
  intro i dp h1 h2 h3 h4
  unfold wiF
  by_cases hi:i<l.length
  ·have e:decide ((i:Int)<(l.length:Int))=true:=by rw [decide_eq_true_eq];omega
   have hid:i<dp.length:=by omega
   have hx:l[i]? =some l[i]:=List.getElem?_eq_getElem hi
   have hat:at' l (i:Int)=some l[i]:=z7 hi
   have hok:=hall l[i] (List.getElem_mem hi)
   rw [hx]
   dsimp only
   generalize l[i]=x at hx hat hok
   have hsz:w64 ((x.Decls.length:Int)+(x.Attrs.length:Int))=((x.Decls.length+x.Attrs.length:Nat):Int):=by
    have:=hok.2.2.2.2.1;have:=hok.2.2.2.2.2.1
    rw [qv (by omega)];omega
   have hw:w64 ((i:Int)+1)=((i+1:Nat):Int):=qb (by omega)
   have adi:at' dp (i:Int)=some (gz dp i):=by rw [z7 hid,gz_get hid]
   by_cases h0:i=0
   ·subst h0
    have e0:decide (((0:Nat):Int)>0)=false:=rfl
    rw [if_pos rfl]
    have st:zJ l (((0:Nat):Int),dp)=(bif decide (gz dp 0>64) then some (.inr (.inl ())) else (bif decide (((x.Decls.length+x.Attrs.length:Nat):Int)>64) then some (.inr (.inl ())) else some (.inl (((0+1:Nat):Int),dp)))):=by
     unfold zJ
     simp only [e,cond_true,hat,Option.bind_some,e0,cond_false,adi,hsz,hw]
    by_cases c1:gz dp 0>64
    ·rw [if_pos (Or.inl c1)]
     rw [show decide (gz dp 0>64)=true by rw [decide_eq_true_eq];exact c1] at st
     exact zg st
    ·rw [show decide (gz dp 0>64)=false by rw [decide_eq_false_iff_not];exact c1] at st
     by_cases c2:x.Decls.length+x.Attrs.length>64
     ·rw [if_pos (Or.inr c2)]
      rw [show decide (((x.Decls.length+x.Attrs.length:Nat):Int)>64)=true by rw [decide_eq_true_eq];omega] at st
      exact zg st
     ·rw [if_neg (by omega)]
      rw [show decide (((x.Decls.length+x.Attrs.length:Nat):Int)>64)=false by rw [decide_eq_false_iff_not];omega] at st
      rw [zt st]
      exact ih (0+1) dp (by omega) (by omega) h3 (fun v hv=>by have:=h4 v hv;omega)
   ·have e0:decide ((i:Int)>0)=true:=by rw [decide_eq_true_eq];omega
    obtain ⟨p0,p1⟩:=hp i x (by omega) hi hx
    have hpl:x.Parent.toNat<dp.length:=by omega
    have hpn:((x.Parent.toNat:Nat):Int)=x.Parent:=by omega
    have adp:at' dp x.Parent=some (gz dp x.Parent.toNat):=by have:=z7 hpl;rw [hpn] at this;rw [this,gz_get hpl]
    have hv0:0≤gz dp x.Parent.toNat∧gz dp x.Parent.toNat≤(i:Int):=by rw [gz_get hpl];exact h4 _ (List.getElem_mem hpl)
    generalize gz dp x.Parent.toNat=g at adp hv0 ⊢
    have hwp:w64 (g+1)=g+1:=qv (by omega)
    have hput:put dp (i:Int) (g+1)=some (dp.set i (g+1)):=put_of hid _
    have ads:at' (dp.set i (g+1)) (i:Int)=some (g+1):=by
     have:=z7 (l:=dp.set i (g+1)) (i:=i) (by rw [List.length_set];exact hid)
     rw [this,List.getElem_set_self]
    rw [if_neg h0]
    have st:zJ l ((i:Int),dp)=(bif decide (g+1>64) then some (.inr (.inl ())) else (bif decide (((x.Decls.length+x.Attrs.length:Nat):Int)>64) then some (.inr (.inl ())) else some (.inl (((i+1:Nat):Int),dp.set i (g+1))))):=by
     unfold zJ
     simp only [e,cond_true,hat,Option.bind_some,e0,adp,adi,hwp,hput,ads,hsz,hw]
    by_cases c1:g+1>64
    ·rw [if_pos (Or.inl c1)]
     rw [show decide (g+1>64)=true by rw [decide_eq_true_eq];exact c1] at st
     exact zg st
    ·rw [show decide (g+1>64)=false by rw [decide_eq_false_iff_not];exact c1] at st
     by_cases c2:x.Decls.length+x.Attrs.length>64
     ·rw [if_pos (Or.inr c2)]
      rw [show decide (((x.Decls.length+x.Attrs.length:Nat):Int)>64)=true by rw [decide_eq_true_eq];omega] at st
      exact zg st
     ·rw [if_neg (by omega)]
      rw [show decide (((x.Decls.length+x.Attrs.length:Nat):Int)>64)=false by rw [decide_eq_false_iff_not];omega] at st
      rw [zt st]
      refine ih (i+1) _ (by omega) (by omega) (by rw [List.length_set];exact h3) (fun v hv=> ?_)
      rcases List.mem_or_eq_of_mem_set hv with h|h
      ·have:=h4 v h;omega
      ·omega
  ·rw [List.getElem?_eq_none (by omega)]
   refine zg ?_;unfold zJ
   have e:decide ((i:Int)<(l.length:Int))=false:=by rw [decide_eq_false_iff_not];omega
   simp only [e,cond_false];rfl
def withinL (l:List ze):Bool:=if l.length>4000 then false else wiF l (l.length+1) 0 (List.replicate l.length 0)
theorem within_eq (l:List ze)(hall: ∀ y∈l,okN y)(hp:ParOk l l.length):zas l=some (withinL l):=by
 unfold zas withinL
 by_cases h:l.length>4000
 ·rw [show decide ((l.length:Int)>4000)=true by rw [decide_eq_true_eq];omega,if_pos h];rfl
 ·rw [show decide ((l.length:Int)>4000)=false by rw [decide_eq_false_iff_not];omega,if_neg h]
  simp only [cond_false]
  have hmk:mk 8 (l.length:Int) (0:Int)=some (List.replicate l.length 0):=by rw [mk_of 0 (by omega),Int.toNat_natCast]
  rw [hmk,Option.bind_some]
  have k1:=wi_loop l (by omega) hall hp (l.length+1) 0 (List.replicate l.length 0) (by omega) (by omega) (by simp) (fun v hv=>by rw [(List.mem_replicate.1 hv).2];decide)
  rw [show iter (zJ l) (0,List.replicate l.length 0)=_ from k1,Option.bind_some]
  cases wiF l (l.length+1) 0 (List.replicate l.length 0)<;>rfl
def endF (l:List ze):Nat→List Int→List Int
 |0,en=>en
 |k+1,en=>match l[k]? with
  |none=>en
  |some x=>if x.Parent≥0 then endF l k ((en.set k (mx (gz en k) ((k:Int)+1))).set x.Parent.toNat (mx (gz (en.set k (mx (gz en k) ((k:Int)+1))) x.Parent.toNat) (gz (en.set k (mx (gz en k) ((k:Int)+1))) k))) else endF l k (en.set k (mx (gz en k) ((k:Int)+1)))
theorem endF_loop (l:List ze){t:Int}(hL:ListOk l t)(hlen:l.length≤1073741824): ∀ (k:Nat) (en:List Int),k≤l.length→en.length=l.length→iter (zay l) ((k:Int)-1,en)=some (endF l k en):=by
 intro k
 induction k with
 |zero=>intro en h1 h2;exact zg rfl
 |succ k ih=>
  intro en h1 h2
  rw [show (((k+1:Nat):Int)-1)=(k:Int) by omega]
  have hk:k<l.length:=by omega
  have hke:k<en.length:=by omega
  have e:decide ((k:Int)≥0)=true:=by simp
  have hx:l[k]? =some l[k]:=List.getElem?_eq_getElem hk
  have hat:at' l (k:Int)=some l[k]:=z7 hk
  unfold endF
  rw [hx]
  dsimp only
  generalize l[k]=x at hx hat
  have ake:at' en (k:Int)=some (gz en k):=by rw [z7 hke,gz_get hke]
  have pke: ∀ v,put en (k:Int) v=some (en.set k v):=fun v=>put_of hke v
  have hwk:w64 ((k:Int)-1)=(k:Int)-1:=qv (by omega)
  have hwk1:w64 ((k:Int)+1)=(k:Int)+1:=qv (by omega)
  by_cases hpar:x.Parent≥0
  ·have hkp:0<k:=by
    rcases Nat.eq_zero_or_pos k with h|h
    ·subst h
     obtain ⟨r',r1,_,r2,_⟩:=hL.root
     rw [r1] at hx;cases hx;omega
    ·exact h
   obtain ⟨p0,p1⟩:=(hL.node k x hkp hk hx).par
   have hpn:((x.Parent.toNat:Nat):Int)=x.Parent:=by omega
   have hEl:(en.set k (mx (gz en k) ((k:Int)+1))).length=l.length:=by rw [List.length_set];exact h2
   rw [if_pos hpar,←ih _ (by omega) (by rw [List.length_set];exact hEl)]
   refine zt ?_;unfold zay
   simp only [e,cond_true,ake,Option.bind_some,pke,hat,hwk1]
   rw [show decide (x.Parent≥0)=true by rw [decide_eq_true_eq];exact hpar]
   generalize en.set k (mx (gz en k) ((k:Int)+1))=E at hEl ⊢
   have hpl:x.Parent.toNat<E.length:=by omega
   have hkl:k<E.length:=by omega
   have a1:at' E x.Parent=some (gz E x.Parent.toNat):=by have:=z7 hpl;rw [hpn] at this;rw [this,gz_get hpl]
   have a2:at' E (k:Int)=some (gz E k):=by rw [z7 hkl,gz_get hkl]
   have p1': ∀ v,put E x.Parent v=some (E.set x.Parent.toNat v):=fun v=>by have:=put_of hpl v;rwa [hpn] at this
   simp only [cond_true,a1,a2,p1',Option.bind_some,hwk]
  ·rw [if_neg hpar,←ih _ (by omega) (by rw [List.length_set];exact h2)]
   refine zt ?_;unfold zay
   simp only [e,cond_true,ake,Option.bind_some,pke,hat,hwk1]
   rw [show decide (x.Parent≥0)=false by rw [decide_eq_false_iff_not];exact hpar]
   simp only [cond_false,hwk]
def ofL (l:List ze):Option Zb×Int:=bif !(checkL l).2 then (none,2) else bif !withinL l then (none,3) else (some (Zb.mk l (endF l l.length (List.replicate l.length 0)) (checkL l).1),0)
theorem Of_eq (l:List ze)(hall: ∀ y∈l,okN y)(hlen:l.length≤1073741824):doc_Of l=some (ofL l):=by
 obtain ⟨v,c1,c2⟩:=check_some l hall hlen
 have c3:=check_eq l hall hlen
 have hv:v=checkL l:=by rw [c1] at c3;exact Option.some.inj c3
 unfold doc_Of ofL
 rw [c3,Option.bind_some]
 cases h:(checkL l).2 with
 |false=>rfl
 |true=>
  have hL:=c2 (by rw [hv];exact h)
  rw [hv] at hL
  have hp:ParOk l l.length:=fun m x a b c=>(hL.node m x a b c).par
  simp only [Bool.not_true,cond_false]
  rw [within_eq l hall hp,Option.bind_some]
  cases hw:withinL l with
  |false=>rfl
  |true=>
   have hl1:1≤l.length:=by
    obtain ⟨r,h0,_⟩:=hL.root
    have:=(List.getElem?_eq_some_iff.1 h0).1;omega
   have hmk:mk 8 (l.length:Int) (0:Int)=some (List.replicate l.length 0):=by rw [mk_of 0 (by omega),Int.toNat_natCast]
   have hc:=copy_loop l hall hlen l.length 0 (by omega) (by omega)
   rw [List.take_zero] at hc
   simp only [Bool.not_true,cond_false]
   rw [hmk,Option.bind_some,show iter (zau l) (0,[])=some l from hc,Option.bind_some,qv (by omega),endF_loop l hL hlen l.length _ (Nat.le_refl _) (by simp),Option.bind_some]
def rootN:ze:=ze.mk 0 (-1) [] [] [] [] [] []
def parseL (b:Str):Option Zb×Int:=
 if b.length>65536 then (none,3) else bif !textB b then (none,2) else bif !(declL (lines b)).1 then (none,2) else
  match runL ((declL (lines b)).2.length+1) (declL (lines b)).2 true [rootN] [] [] with
  |none=>(none,2)
  |some q=>if q.2.2.2.1=[] then ofL q.2.2.1 else (none,2)
theorem Parse_eq (b:Str):Jh b=some (parseL b):=by
 unfold Jh parseL
 by_cases hb:b.length>65536
 ·rw [show decide ((b.length:Int)>65536)=true by rw [decide_eq_true_eq];omega,if_pos hb];rfl
 ·rw [show decide ((b.length:Int)>65536)=false by rw [decide_eq_false_iff_not];omega,Text_eq b (by omega),if_neg hb]
  simp only [cond_false,Option.bind_some]
  cases ht:textB b with
  |false=>rfl
  |true=>
   have hl:=lines_len b
   rw [Lines_eq b (by omega)]
   simp only [Bool.not_true,cond_false,Option.bind_some]
   obtain ⟨v3,d1,d2,d3⟩:=declaration_eq true false [(ze.mk 0 (-1) [] [] [] [] [] [])] [] [] (lines b) (by omega) (lines_text ht)
   rw [d1,←d2]
   simp only [Option.bind_some]
   cases h3:v3.1 with
   |false=>rfl
   |true=>
    obtain ⟨l3,t3⟩:=d3 h3
    have hI:Inv 65536 v3.2 [(ze.mk 0 (-1) [] [] [] [] [] [])] [] []:=⟨t3,by simp;omega,by simp,by simp,(fun o ho=>by cases ho),(fun y hy=>by
     obtain rfl:=List.mem_singleton.1 hy
     exact ⟨Nat.zero_le _,Nat.zero_le _,Nat.zero_le _,Nat.zero_le _,Nat.zero_le _,Nat.zero_le _,by simp,by simp⟩),by simp;omega⟩
    obtain ⟨r1,r2⟩:=run_loop (N:=65536) (by omega) (v3.2.length+1) v3.2 true [(ze.mk 0 (-1) [] [] [] [] [] [])] [] [] (by omega) hI
    simp only [Bool.not_true,cond_false]
    rw [r1]
    show _=some (match runL (v3.2.length+1) v3.2 true [(ze.mk 0 (-1) [] [] [] [] [] [])] [] [] with|none=>(none,2)|some q=>if q.2.2.2.1=[] then ofL q.2.2.1 else (none,2))
    cases hq:runL (v3.2.length+1) v3.2 true [(ze.mk 0 (-1) [] [] [] [] [] [])] [] [] with
    |none=>rfl
    |some q=>
     obtain ⟨nb',l',p',x',rfl,hI'⟩:=r2 q hq
     simp only [Option.bind_some,Sum.elim_inr]
     by_cases hp:p'=[]
     ·subst hp
      rw [if_pos rfl]
      simp only [List.length_nil,show decide ((((0:Nat):Int))>0)=false from rfl,cond_false]
      have hl':=hI'.hl
      rw [Of_eq l' hI'.hn (by simp at hl';omega)];rfl
     ·have:0<p'.length:=List.length_pos_iff.2 hp
      rw [if_neg hp,show decide ((p'.length:Int)>0)=true by rw [decide_eq_true_eq];omega];rfl
def dI:Zb:=Zb.mk [rootN,ze.mk 1 0 [] [97] [] [] [] [zO.mk [] [73,100] [] [120]]] [2,2] 1
theorem parseI:parseL [60,97,32,73,100,61,39,120,39,47,62]=(some dI,0):=by kernel_rfl
theorem ofI:ident_Of_e (some dI)=some (some (ZV.mk (some dI) [([120],1)]),0):=by kernel_rfl
theorem nodeI:resolve_Node_e (some (ZV.mk (some dI) [([120],1)])) [35,120]=some (1,false,0):=by kernel_rfl
theorem awake22:Zt=some true:=by
 unfold Zt
 rw [Parse_eq,parseI,Option.bind_some]
 dsimp only
 rw [ident_Of_le _ _ ofI,Option.bind_some]
 dsimp only
 rw [resolve_Node_le _ _ _ nodeI]
 rfl
section
variable {d:Zb} (hd:DocOk d)
theorem Len_eq (d:Zb):zav (some d)=some (d.l.length:Int):=rfl
theorem has_eq (d:Zb)(n:Int):Jl (some d) n=some (decide (0≤n∧n<(d.l.length:Int))):=by
 unfold Jl
 rw [Len_eq]
 by_cases h:n≥0
 ·rw [show decide (n≥0)=true by rw [decide_eq_true_eq];exact h]
  simp only [cond_true,Option.bind_some]
  congr 1
  rw [Bool.eq_iff_iff];simp only [decide_eq_true_eq];omega
 ·rw [show decide (n≥0)=false by rw [decide_eq_false_iff_not];exact h]
  simp only [cond_false]
  congr 1
  rw [Bool.eq_iff_iff];simp only [decide_eq_true_eq];simp;omega
theorem has_in {d:Zb}{m:Nat}(h:m<d.l.length):Jl (some d) (m:Int)=some true:=by
 rw [has_eq];congr 1;rw [decide_eq_true_eq];omega
include hd in
theorem Node_in {m:Nat}{x:ze}(hx:d.l[m]? =some x):Zn (some d) (m:Int)=some x:=by
 unfold Zn
 have hm:=(List.getElem?_eq_some_iff.1 hx).1
 rw [has_in hm]
 simp only [Option.bind_some,Bool.not_true,cond_false]
 rw [Q1,hx]
 simp only [Option.bind_some]
 rw [cloneD_eq x (hd.size x (List.mem_of_getElem? hx))];rfl
def endN (d:Zb)(m:Nat):Nat:=(gz d.end_ m).toNat
include hd in
theorem end_spec {m:Nat}(hm:m<d.l.length):d.end_[m]? =some (endN d m:Int)∧m<endN d m∧endN d m≤d.l.length∧ ∀ i,m≤i→i<d.l.length→(i<endN d m↔Anc d.l i m):=by
 obtain ⟨e,h1,h2,h3,h4⟩:=hd.ends.2 m hm
 have:endN d m=e:=by unfold endN gz;rw [h1];simp
 rw [this]
 exact ⟨h1,h2,h3,h4⟩
include hd in
theorem End_in {m:Nat}(hm:m<d.l.length):doc_Doc_End (some d) (m:Int)=some (endN d m:Int):=by
 unfold doc_Doc_End
 rw [has_in hm]
 simp only [Option.bind_some,Bool.not_true,cond_false]
 rw [Q1,(end_spec hd hm).1];rfl
include hd in
end
theorem names_some (a:zO): ∃ v,ident_names a=some v:=by
 unfold ident_names
 cases (a.URI==[104,116,116,112,58,47,47,119,119,119,46,119,51,46,111,114,103,47,88,77,76,47,49,57,57,56,47,110,97,109,101,115,112,97,99,101])<;>cases (a.URI==[])<;>cases (a.Local==[73,100])<;>cases (a.Local==[73,68])<;>exact ⟨_,rfl⟩
theorem mem_mput {κ ν:Type}[DecidableEq κ]{x:κ×ν}{k:κ}{v:ν}: ∀ {m:List (κ×ν)},x∈mput m k v→x=(k,v)∨x∈m
 |[],h=>by
  unfold mput at h;exact Or.inl (List.mem_singleton.1 h)
 |(a,y)::r,h=>by
  unfold mput at h
  split at h
  ·rcases List.mem_cons.1 h with h|h
   ·exact Or.inl h
   ·exact Or.inr (List.mem_cons_of_mem _ h)
  ·rcases List.mem_cons.1 h with h|h
   ·exact Or.inr (h ▸ List.mem_cons_self)
   ·rcases mem_mput h with h|h
    ·exact Or.inl h
    ·exact Or.inr (List.mem_cons_of_mem _ h)
theorem mem_mget {κ ν:Type}[DecidableEq κ]{k:κ}{v:ν}: ∀ {m:List (κ×ν)},mget m k=some v→(k,v)∈m
 |[],h=>by cases h
 |(a,y)::r,h=>by
  unfold mget at h
  split at h
  ·rename_i e;cases h;subst e;exact List.mem_cons_self
  ·exact List.mem_cons_of_mem _ (mem_mget h)
section
variable {d:Zb} (hd:DocOk d)
def IdOk (d:Zb)(m:List (Str×Int)):Prop:= ∀ x∈m,∃ j:Nat,x.2=(j:Int)∧j<d.l.length
theorem add_loop (x:ze)(hx:x.Attrs.length≤1000000){n:Nat}(hn:n<d.l.length): ∀ (c i:Nat) (m:List (Str×Int)),x.Attrs.length-i≤c→i≤x.Attrs.length→IdOk d m→ ∃ v,iter (qe (n:Int) x) ((i:Int),m)=some v∧(∀ m',v= .inr m'→IdOk d m'):=by
 intro c
 induction c with
 |zero=>
  intro i m h1 h2 h3
  obtain rfl:i=x.Attrs.length:=by omega
  refine ⟨.inr m,zg ?_,fun m' h=>by cases h;exact h3⟩;unfold qe
  simp only
  rw [show decide ((x.Attrs.length:Int)<(x.Attrs.length:Int))=false by simp]
  rfl
 |succ c ih=>
  intro i m h1 h2 h3
  by_cases hi:i<x.Attrs.length
  ·have e:decide ((i:Int)<(x.Attrs.length:Int))=true:=by rw [decide_eq_true_eq];omega
   have hw:w64 ((i:Int)+1)=((i+1:Nat):Int):=qb (by omega)
   obtain ⟨v,hv⟩:=names_some x.Attrs[i]
   cases v with
   |false=>
    obtain ⟨r,r1,r2⟩:=ih (i+1) m (by omega) (by omega) h3;refine ⟨r,?_,r2⟩
    rw [←r1]
    refine zt ?_;unfold qe
    simp only [e,cond_true,z7 hi,Option.bind_some,hv,Bool.not_false,hw]
   |true=>
    cases hg:(mget m x.Attrs[i].Value).isSome with
    |true=>
     refine ⟨.inl m,zg ?_,fun m' h=>by cases h⟩;unfold qe
     simp only [e,cond_true,z7 hi,Option.bind_some,hv,Bool.not_true,cond_false,hg]
    |false=>
     obtain ⟨r,r1,r2⟩:=ih (i+1) (mput m x.Attrs[i].Value (n:Int)) (by omega) (by omega) (fun y hy=>by
      rcases mem_mput hy with h|h
      ·subst h;exact ⟨n,rfl,hn⟩
      ·exact h3 y h)
     refine ⟨r,?_,r2⟩
     rw [←r1]
     refine zt ?_;unfold qe
     simp only [e,cond_true,z7 hi,Option.bind_some,hv,Bool.not_true,cond_false,hg,hw]
  ·obtain rfl:i=x.Attrs.length:=by omega
   refine ⟨.inr m,zg ?_,fun m' h=>by cases h;exact h3⟩;unfold qe
   simp only
   rw [show decide ((x.Attrs.length:Int)<(x.Attrs.length:Int))=false by simp]
   rfl
include hd in
theorem add_some {n:Nat}(hn:n<d.l.length){m:List (Str×Int)}(hm:IdOk d m): ∃ b m',Zs (n:Int) (some d) m=some (b,m')∧(b=true→IdOk d m'):=by
 have hx:d.l[n]? =some d.l[n]:=List.getElem?_eq_getElem hn
 generalize d.l[n]=x at hx
 have hf:=hd.few x (List.mem_of_getElem? hx)
 obtain ⟨v,h1,h2⟩:=add_loop (d:=d) x (by omega) hn x.Attrs.length 0 m (by omega) (Nat.zero_le _) hm;unfold Zs
 rw [Node_in hd hx,Option.bind_some,show iter (qe (n:Int) x) (0,m)=_ from h1]
 cases v with
 |inl m'=>exact ⟨false,m',rfl,fun h=>by cases h⟩
 |inr m'=>exact ⟨true,m',rfl,fun _=>h2 m' rfl⟩
include hd in
theorem of_loop: ∀ (c i:Nat) (m:List (Str×Int)),d.l.length-i≤c→i≤d.l.length→IdOk d m→ ∃ v,iter (Qm (some d) (d.l.length:Int)) ((i:Int),m)=some v∧(∀ m',v= .inr m'→IdOk d m'):=by
 have hmany:=hd.many
 intro c
 induction c with
 |zero=>
  intro i m h1 h2 h3
  obtain rfl:i=d.l.length:=by omega
  refine ⟨.inr m,zg ?_,fun m' h=>by cases h;exact h3⟩;unfold Qm
  simp only
  rw [show decide ((d.l.length:Int)<(d.l.length:Int))=false by simp]
  rfl
 |succ c ih=>
  intro i m h1 h2 h3
  by_cases hi:i<d.l.length
  ·have e:decide ((i:Int)<(d.l.length:Int))=true:=by rw [decide_eq_true_eq];omega
   have hw:w64 ((i:Int)+1)=((i+1:Nat):Int):=qb (by omega)
   obtain ⟨b,m',a1,a2⟩:=add_some hd hi h3
   cases b with
   |false=>
    refine ⟨.inl (),zg ?_,fun m' h=>by cases h⟩;unfold Qm
    simp only [e,cond_true,a1,Option.bind_some,Bool.not_false]
   |true=>
    obtain ⟨r,r1,r2⟩:=ih (i+1) m' (by omega) (by omega) (a2 rfl);refine ⟨r,?_,r2⟩
    rw [←r1]
    refine zt ?_;unfold Qm
    simp only [e,cond_true,a1,Option.bind_some,Bool.not_true,cond_false,hw]
  ·obtain rfl:i=d.l.length:=by omega
   refine ⟨.inr m,zg ?_,fun m' h=>by cases h;exact h3⟩;unfold Qm
   simp only
   rw [show decide ((d.l.length:Int)<(d.l.length:Int))=false by simp]
   rfl
include hd in
theorem IdOf_some:zae (some d)=some (none,9)∨ ∃ m,zae (some d)=some (some (ZV.mk (some d) m),0)∧IdOk d m:=by
 obtain ⟨v,h1,h2⟩:=of_loop hd d.l.length 0 [] (by omega) (Nat.zero_le _) (fun x h=>by cases h);unfold zae
 simp only [Option.isNone_some,cond_false,Len_eq,Option.bind_some]
 rw [show iter (Qm (some d) (d.l.length:Int)) (0,[])=_ from h1]
 cases v with
 |inl u=>exact Or.inl rfl
 |inr m=>exact Or.inr ⟨m,rfl,h2 m rfl⟩
end
theorem IdOf_none:zae none=some (none,1):=rfl
def cutS (t s:Str):Str×Bool:=bif decide (t.length≤s.length)&&(s.drop (s.length-t.length)==t) then (s.take (s.length-t.length),true) else (s,false)
theorem CutSuffix_eq (s t:Str)(h:s.length≤1048576):QL s t=some (cutS t s):=by
 have hs:=HasSuffix_eq s t h
 unfold Z4 at hs;unfold QL QD cutS
 cases hv:Zh s t with
 |none=>rw [hv] at hs;cases hs
 |some v=>
  rw [hv] at hs
  have hs:v=(decide (t.length≤s.length)&&(s.drop (s.length-t.length)==t)):=Option.some.inj hs
  rw [←hs,Option.bind_some]
  cases v with
  |false=>rfl
  |true=>
   have hl:t.length≤s.length:=by
    have:=hs.symm
    rw [Bool.and_eq_true,decide_eq_true_eq] at this
    exact this.1
   simp only [Bool.not_true,cond_false,cond_true]
   rw [qv (by omega),show ((s.length:Int)-(t.length:Int))=((s.length-t.length:Nat):Int) by omega]
   rw [QQ (by omega)]
   simp
def betwL (s a b:Str):Str×Bool:=((cutS b (cutP a s).1).1,(cutP a s).2&&(cutS b (cutP a s).1).2)
theorem cutS_len (p s:Str):(cutS p s).1.length≤s.length:=by
 unfold cutS
 cases (decide (p.length≤s.length)&&(s.drop (s.length-p.length)==p)) with
 |false=>exact Nat.le_refl _
 |true=>simp
theorem rbetween_eq (s a b:Str)(h:s.length≤1048576):ZL s a b=some (betwL s a b):=by
 have:=JC a s
 unfold ZL betwL
 rw [CutPrefix_eq,Option.bind_some,CutSuffix_eq _ _ (by omega),Option.bind_some]
 cases (cutP a s).2<;>rfl
def xpI:Str:=[35,120,112,111,105,110,116,101,114,40,105,100,40]
def calL (u:Str):Str×Bool×Bool:=
 bif (betwL u (xpI++[39]) [39,41,41]).2 then ((betwL u (xpI++[39]) [39,41,41]).1,true,nameB (betwL u (xpI++[39]) [39,41,41]).1)
 else bif (betwL u (xpI++[34]) [34,41,41]).2 then ((betwL u (xpI++[34]) [34,41,41]).1,true,nameB (betwL u (xpI++[34]) [34,41,41]).1)
 else ((cutP [35] u).1,false,(cutP [35] u).2&&nameB (cutP [35] u).1)
theorem called_eq (u:Str)(h:u.length≤1048576):Qx u=some (calL u):=by
 have l1:(betwL u (xpI++[39]) [39,41,41]).1.length≤1048576:=by
  have:=JC (xpI++[39]) u;have:=cutS_len [39,41,41] (cutP (xpI++[39]) u).1
  unfold betwL;dsimp only;omega
 have l2:(betwL u (xpI++[34]) [34,41,41]).1.length≤1048576:=by
  have:=JC (xpI++[34]) u;have:=cutS_len [34,41,41] (cutP (xpI++[34]) u).1
  unfold betwL;dsimp only;omega
 have l3:=JC [35] u
 have s0:ZF u 0=some (bif (betwL u (xpI++[39]) [39,41,41]).2 then .inr (.inl ((betwL u (xpI++[39]) [39,41,41]).1,nameB (betwL u (xpI++[39]) [39,41,41]).1)) else .inl 1):=by
  show ((cat xpI [39]).bind fun v3=>(cat [39] [41,41]).bind fun v4=>(ZL u v3 v4).bind fun v5=>(bif v5.2 then (Z0 v5.1).bind fun v6=>some (Sum.inr (Sum.inl (v5.1,v6))) else some (Sum.inl (w64 (0+1)))):Option (Int⊕((Str×Bool)⊕Unit)))=_
  rw [cat_of (by decide),Option.bind_some,cat_of (by decide),Option.bind_some,show ([39]++[41,41]:Str)=[39,41,41] from rfl,rbetween_eq _ _ _ h,Option.bind_some]
  cases (betwL u (xpI++[39]) [39,41,41]).2 with
  |false=>rfl
  |true=>simp only [cond_true];rw [Is_eq _ (by omega)];rfl
 have s1:ZF u 1=some (bif (betwL u (xpI++[34]) [34,41,41]).2 then .inr (.inl ((betwL u (xpI++[34]) [34,41,41]).1,nameB (betwL u (xpI++[34]) [34,41,41]).1)) else .inl 2):=by
  show ((cat xpI [34]).bind fun v3=>(cat [34] [41,41]).bind fun v4=>(ZL u v3 v4).bind fun v5=>(bif v5.2 then (Z0 v5.1).bind fun v6=>some (Sum.inr (Sum.inl (v5.1,v6))) else some (Sum.inl (w64 (1+1)))):Option (Int⊕((Str×Bool)⊕Unit)))=_
  rw [cat_of (by decide),Option.bind_some,cat_of (by decide),Option.bind_some,show ([34]++[41,41]:Str)=[34,41,41] from rfl,rbetween_eq _ _ _ h,Option.bind_some]
  cases (betwL u (xpI++[34]) [34,41,41]).2 with
  |false=>rfl
  |true=>simp only [cond_true];rw [Is_eq _ (by omega)];rfl
 have s2:ZF u 2=some (.inr (.inr ())):=rfl
 unfold Qx calL
 cases c0:(betwL u (xpI++[39]) [39,41,41]).2 with
 |true=>
  rw [c0] at s0
  rw [zg s0];rfl
 |false=>
  rw [c0] at s0
  rw [zt s0]
  cases c1:(betwL u (xpI++[34]) [34,41,41]).2 with
  |true=>
   rw [c1] at s1
   rw [zg s1];rfl
  |false=>
   rw [c1] at s1
   rw [zt s1,zg s2]
   simp only [Option.bind_some,Sum.elim_inr,cond_false]
   rw [CutPrefix_eq,Option.bind_some]
   cases c2:(cutP [35] u).2 with
   |false=>rfl
   |true=>simp only [cond_true,Bool.true_and];rw [Is_eq _ (by omega)];rfl
def pt (n:Int):zV:=zV.mk n 0 0
section
variable {d:Zb} (hd:DocOk d)
include hd in
theorem parOk:ParOk d.l d.l.length:=fun m x a b c=>(hd.list.node m x a b c).par
include hd in
theorem root_par: ∀ r,d.l[0]? =some r→r.Parent= -1:=fun r hr=>by
 obtain ⟨r',r1,_,r2,_⟩:=hd.list.root
 rw [r1] at hr;cases hr;exact r2
include hd in
theorem par_lt {m:Nat}{x:ze}(hx:d.l[m]? =some x): -1≤x.Parent∧x.Parent<(m:Int)∧(0<m→0≤x.Parent):=by
 have hm:=(List.getElem?_eq_some_iff.1 hx).1
 by_cases h0:m=0
 ·subst h0;have:=root_par hd x hx;omega
 ·have:=parOk hd m x (by omega) hm hx;omega
def upN (l:List ze):Nat→Int→List Int
 |0,_=>[]
 |k+1,p=>if 0≤p then p::(match l[p.toNat]? with
  |some x=>upN l k x.Parent
  |none=>[]) else []
include hd in
theorem upw_loop: ∀ (k:Nat) (p:Int) (out:List Int),p+1≤(k:Int)→ -1≤p→p<(d.l.length:Int)→(out.length:Int)+p+1≤(d.l.length:Int)→iter (JH (some d)) (p,out)=some (out++upN d.l (k+1) p):=by
 have hmany:=hd.many
 intro k
 induction k with
 |zero=>
  intro p out h1 h2 h3 h4
  unfold upN
  rw [if_neg (by omega),List.append_nil]
  refine zg ?_;unfold JH
  simp only
  rw [show decide (p≥0)=false by rw [decide_eq_false_iff_not];omega]
  rfl
 |succ k ih=>
  intro p out h1 h2 h3 h4
  by_cases hp:0≤p
  ·obtain ⟨m,rfl⟩: ∃ m:Nat,p=(m:Int):=⟨p.toNat,by omega⟩
   have hm:m<d.l.length:=by omega
   have hx:d.l[m]? =some d.l[m]:=List.getElem?_eq_getElem hm
   have hq:=par_lt hd hx
   unfold upN
   rw [if_pos hp,show ((m:Int)).toNat=m by omega,hx]
   dsimp only
   rw [show out++(m:Int)::upN d.l (k+1) d.l[m].Parent=out++[(m:Int)]++upN d.l (k+1) d.l[m].Parent by simp,←ih d.l[m].Parent (out++[(m:Int)]) (by omega) (by omega) (by omega) (by simp;omega)]
   refine zt ?_;unfold JH
   simp only
   rw [show decide ((m:Int)≥0)=true by rw [decide_eq_true_eq];omega]
   simp only [cond_true]
   rw [Z3 (by simp;omega)]
   simp only [Option.bind_some]
   rw [Q1,hx]
   rfl
  ·unfold upN
   rw [if_neg hp,List.append_nil]
   refine zg ?_;unfold JH
   simp only
   rw [show decide (p≥0)=false by rw [decide_eq_false_iff_not];omega]
   rfl
theorem upN_len: ∀ (k:Nat) (p:Int),(upN d.l k p).length≤k
 |0,_=>Nat.le_refl _
 |k+1,p=>by
  unfold upN
  split
  ·split
   ·rw [List.length_cons];have:=upN_len k;have:=this ‹ze›.Parent;omega
   ·simp
  ·simp
def ups (d:Zb)(x:ze):List Int:=upN d.l (d.l.length+1) x.Parent
include hd in
theorem Up_in {m:Nat}{x:ze}(hx:d.l[m]? =some x):doc_Doc_Up (some d) (m:Int)=some (ups d x):=by
 have hm:=(List.getElem?_eq_some_iff.1 hx).1
 have hq:=par_lt hd hx
 unfold doc_Doc_Up
 rw [has_in hm]
 simp only [Option.bind_some,Bool.not_true,cond_false]
 rw [Q1,hx]
 simp only [Option.bind_some]
 rw [upw_loop hd d.l.length x.Parent [] (by omega) (by omega) (by omega) (by simp;omega)]
 rfl
include hd in
end
structure CmpD (cmp:za→za→Option Int) (lt:za→za→Bool):Prop where
 val: ∀ x y,∃ n,cmp x y=some n∧decide (n<0)=lt x y
 asym: ∀ x y,lt x y=true→lt y x=false
 nt: ∀ x y z,lt x y=false→lt y z=false→lt x z=false
def Sd (lt:za→za→Bool)(l:List za):Prop:=l.Pairwise fun x y=>lt y x=false
theorem at_mid {α:Type}{L:List α}(p:List α)(c:α)(r:List α){i:Nat}(hL:L=p++c::r)(h:i=p.length):at' L (i:Int)=some c:=by
 subst h hL;rw [Q1];simp
theorem put_mid {α:Type}{L:List α}(p:List α)(c:α)(r:List α){i:Nat}(d:α)(hL:L=p++c::r)(h:i=p.length):put L (i:Int) d=some (p++d::r):=by
 subst h hL;rw [put_of (by simp)];simp
theorem swp {α ρ:Type}{L:List α}(p s q:List α)(c d:α){i j:Nat}(hL:L=p++c::(s++d::q))(hi:i=p.length)(hj:j=p.length+1+s.length)(k:List α→Option ρ):
 ((at' L (j:Int)).bind fun v2=>(at' L (i:Int)).bind fun v3=>(at' L (i:Int)).bind fun v4=>(put L (i:Int) v2).bind fun v5=>(at' v5 (j:Int)).bind fun v6=>(put v5 (j:Int) v3).bind k)=k (p++d::(s++c::q)):=by
 rw [at_mid p c _ hL hi,at_mid (p++c::s) d q (by rw [hL];simp) (by simp;omega)]
 simp only [Option.bind_some]
 rw [put_mid p c _ d hL hi]
 simp only [Option.bind_some]
 rw [at_mid (p++d::s) d q (by simp) (by simp;omega)]
 simp only [Option.bind_some]
 rw [put_mid (p++d::s) d q c (by simp) (by simp;omega)]
 simp only [Option.bind_some,List.append_assoc,List.cons_append]
theorem swp' {α ρ:Type}{L:List α}(p s q:List α)(c d:α){i j:Nat}(hL:L=p++c::(s++d::q))(hi:i=p.length)(hj:j=p.length+1+s.length)(k:List α→Option ρ):
 ((at' L (i:Int)).bind fun v2=>(at' L (j:Int)).bind fun v3=>(at' L (j:Int)).bind fun v4=>(put L (j:Int) v2).bind fun v5=>(at' v5 (i:Int)).bind fun v6=>(put v5 (i:Int) v3).bind k)=k (p++d::(s++c::q)):=by
 rw [at_mid p c _ hL hi,at_mid (p++c::s) d q (by rw [hL];simp) (by simp;omega)]
 simp only [Option.bind_some]
 rw [put_mid (p++c::s) d q c (by rw [hL];simp) (by simp;omega)]
 simp only [Option.bind_some]
 rw [at_mid p c (s++c::q) (by simp) hi]
 simp only [Option.bind_some]
 rw [put_mid p c (s++c::q) d (by simp) hi]
 simp only [Option.bind_some,List.append_assoc,List.cons_append]
theorem w64_nn (n:Nat)(h:n<4611686018427387904):w64 (n:Int)=(n:Int):=qv (by omega)
theorem zam (a b:Nat)(h:a+b<4611686018427387904):w64 ((a:Int)+(b:Int))=((a+b:Nat):Int):=by rw [qv (by omega)];omega
theorem J1 (a b:Nat)(h:b≤a)(h2:a<4611686018427387904):w64 ((a:Int)-(b:Int))=((a-b:Nat):Int):=by rw [qv (by omega)];omega
theorem w64_inc (a:Nat)(h:a<4611686018427387904):w64 ((a:Int)+1)=((a+1:Nat):Int):=by rw [qv (by omega)];omega
theorem w64_dec (a:Nat)(h:0<a)(h2:a<4611686018427387904):w64 ((a:Int)-1)=((a-1:Nat):Int):=by rw [qv (by omega)];omega
theorem half (i j:Nat)(h:i+j<4611686018427387904):w64 ((v64 (w64 ((i:Int)+(j:Int)))).fdiv (2^1))=(((i+j) / 2:Nat):Int):=by
 rw [zam i j h]
 have h1:v64 ((i+j:Nat):Int)=((i+j:Nat):Int):=by
  have e1:(2^64:Int)=18446744073709551616:=by decide
  unfold v64 wr
  simp only [Bool.false_and,e1]
  rw [if_neg (by simp)];omega
 rw [h1,show ((2:Int)^1)=((2:Nat):Int) from rfl]
 have h2:(((i+j:Nat):Int)).fdiv ((2:Nat):Int)=(((i+j) / 2:Nat):Int):=by
  rw [Int.fdiv_eq_ediv_of_nonneg _ (by omega)];omega
 rw [h2,w64_nn _ (by omega)]
theorem swr_loop (a b n:Nat)(p s q:List za): ∀ (x2 y2 x1 y1:List za),x2.length=y2.length→x1.length=y1.length→n=x1.length+x2.length→a=p.length→b=p.length+n+s.length→b+n<4611686018427387904→
 iter (qA (a:Int) (b:Int) (n:Int)) ((y1.length:Int),p++(y1++(x2++(s++(x1++(y2++q))))))=some (p++(y1++(y2++(s++(x1++(x2++q)))))):=by
 intro x2
 induction x2 with
 |nil=>
  intro y2 x1 y1 h1 h2 hn ha hb hB
  obtain rfl:y2=[]:=List.length_eq_zero_iff.1 h1.symm;refine zg ?_;unfold qA
  have hd:decide ((y1.length:Int)<(n:Int))=false:=by simp at hn ⊢;omega
  rw [hd];simp
 |cons c x2 ih=>
  intro y2 x1 y1 h1 h2 hn ha hb hB
  cases y2 with
  |nil=>cases h1
  |cons d y2=>
   simp only [List.length_cons] at h1 hn
   have:=ih y2 (x1++[c]) (y1++[d]) (by omega) (by simp;omega) (by simp;omega) ha hb hB
   simp only [List.append_assoc,List.cons_append,List.nil_append] at this ⊢
   rw [←this]
   refine zt ?_;unfold qA
   have hd:decide ((y1.length:Int)<(n:Int))=true:=by simp;omega
   simp only [hd,cond_true]
   rw [zam b y1.length (by omega),zam a y1.length (by omega),swp (p++y1) (x2++(s++x1)) (y2++q) c d (by simp) (by simp;omega) (by simp;omega),w64_inc _ (by omega)]
   simp
theorem swr (cmp:za→za→Option Int)(p x s y q:List za)(a b n:Nat)(h1:n=x.length)(h2:n=y.length)(ha:a=p.length)(hb:b=p.length+n+s.length)(hB:b+n<4611686018427387904):
 zQ (p++(x++(s++(y++q)))) (a:Int) (b:Int) (n:Int) cmp=some (p++(y++(s++(x++q)))):=by
 unfold zQ
 have:=swr_loop a b n p s q x y [] [] (by omega) rfl (by simpa using h1) ha hb hB
 simp only [List.nil_append,List.length_nil] at this
 rw [show (0:Int)=((0:Nat):Int) from rfl,this];rfl
theorem rot_loop (cmp:za→za→Option Int)(m:Nat): ∀ (N:Nat) (X Y pre post:List za),X.length+Y.length≤N→0<X.length→0<Y.length→m=pre.length+X.length→m+Y.length<2305843009213693952→
 ∃ (k:Nat) (D:List za),iter (qs (m:Int) cmp) ((X.length:Int),(Y.length:Int),pre++(X++(Y++post)))=some ((k:Int),D)∧D.length=pre.length+X.length+Y.length+post.length∧zQ D (w64 ((m:Int)-(k:Int))) (m:Int) (k:Int) cmp=some (pre++(Y++(X++post))):=by
 intro N
 induction N with
 |zero=>intro X Y pre post h h1;omega
 |succ N ih=>
  intro X Y pre post hN hX hY hm hB
  by_cases he:X.length=Y.length
  ·refine ⟨X.length,pre++(X++(Y++post)),zg ?_,?_,?_⟩
   ·unfold qs
    have hd:((X.length:Int) != (Y.length:Int))=false:=by simp;omega
    simp only [hd,cond_false]
   ·simp;omega
   ·rw [J1 m X.length (by omega) (by omega)]
    exact swr cmp pre X [] Y post _ _ _ rfl he (by omega) (by simp;omega) (by omega)
  ·have hne:((X.length:Int) != (Y.length:Int))=true:=by simp;omega
   by_cases hg:X.length>Y.length
   ·obtain ⟨X1,X2,rfl,h1⟩: ∃ X1 X2:List za,X=X1++X2∧X1.length=Y.length:=⟨X.take Y.length,X.drop Y.length,(List.take_append_drop _ _).symm,by simp;omega⟩
    simp only [List.length_append] at*
    obtain ⟨k,D,e1,e2,e3⟩:=ih X2 X1 (pre++Y) post (by omega) (by omega) (by omega) (by simp;omega) (by omega);refine ⟨k,D,?_,by simp at e2;omega,by simpa using e3⟩
    rw [←e1]
    refine zt ?_;unfold qs
    have hd:decide (((X1.length+X2.length:Nat):Int)>(Y.length:Int))=true:=by simp;omega
    simp only [hne,hd,cond_true]
    have sw:=swr cmp pre X1 X2 Y post (m-(X1.length+X2.length)) m Y.length h1.symm rfl (by omega) (by omega) (by omega)
    rw [J1 m (X1.length+X2.length) (by omega) (by omega)]
    simp only [List.append_assoc] at sw ⊢
    rw [sw]
    simp only [Option.bind_some]
    rw [eqn_of (by simp;omega)]
    simp only [Option.bind_some]
    rw [J1 (X1.length+X2.length) Y.length (by omega) (by omega),show X1.length+X2.length-Y.length=X2.length by omega,h1]
   ·obtain ⟨Y1,Y2,rfl,h1⟩: ∃ Y1 Y2:List za,Y=Y1++Y2∧Y2.length=X.length:=⟨Y.take (Y.length-X.length),Y.drop (Y.length-X.length),(List.take_append_drop _ _).symm,by simp;omega⟩
    simp only [List.length_append] at*
    obtain ⟨k,D,e1,e2,e3⟩:=ih Y2 Y1 pre (X++post) (by omega) (by omega) (by omega) (by omega) (by omega);refine ⟨k,D,?_,by simp at e2;omega,by simpa using e3⟩
    rw [←e1]
    refine zt ?_;unfold qs
    have hd:decide ((X.length:Int)>((Y1.length+Y2.length:Nat):Int))=false:=by simp;omega
    simp only [hne,hd,cond_true,cond_false]
    have sw:=swr cmp pre X Y1 Y2 post (m-X.length) (m+(Y1.length+Y2.length)-X.length) X.length rfl h1.symm (by omega) (by omega) (by omega)
    rw [J1 m X.length (by omega) (by omega),zam m (Y1.length+Y2.length) (by omega),J1 (m+(Y1.length+Y2.length)) X.length (by omega) (by omega)]
    simp only [List.append_assoc] at sw ⊢
    rw [sw]
    simp only [Option.bind_some]
    rw [eqn_of (by simp;omega)]
    simp only [Option.bind_some]
    rw [J1 (Y1.length+Y2.length) X.length (by omega) (by omega),show Y1.length+Y2.length-X.length=Y1.length by omega,h1]
theorem rot (cmp:za→za→Option Int)(p x y q:List za)(a m b:Nat)(hx:0<x.length)(hy:0<y.length)(ha:a=p.length)(hm:m=a+x.length)(hb:b=m+y.length)(hB:b<2305843009213693952):
 qq (p++(x++(y++q))) (a:Int) (m:Int) (b:Int) cmp=some (p++(y++(x++q))):=by
 unfold qq;obtain ⟨k,D,e1,e2,e3⟩:=rot_loop cmp m (x.length+y.length) x y p q (Nat.le_refl _) hx hy (by omega) (by omega)
 rw [J1 m a (by omega) (by omega),J1 b m (by omega) (by omega),show m-a=x.length by omega,show b-m=y.length by omega,e1]
 simp only [Option.bind_some,e3]
 rw [eqn_of (by simp;omega)];rfl
theorem bs_loop {ρ:Type}(f:Int×Int→Option ((Int×Int)⊕ρ))(P:Nat→Bool)(out:Nat→ρ)(lo hi:Nat)
 (hs: ∀ i j:Nat,lo≤i→i<j→j≤hi→f ((i:Int),(j:Int))=some (.inl (bif P ((i+j) / 2) then ((((i+j) / 2+1:Nat):Int),(j:Int)) else ((i:Int),(((i+j) / 2:Nat):Int)))))
 (he: ∀ i:Nat,lo≤i→i≤hi→f ((i:Int),(i:Int))=some (.inr (out i))): ∀ (n i j:Nat),j-i≤n→lo≤i→i≤j→j≤hi→(lo<i→P (i-1)=true)→(j<hi→P j=false)→
  ∃ s,iter f ((i:Int),(j:Int))=some (out s)∧lo≤s∧s≤hi∧(lo<s→P (s-1)=true)∧(s<hi→P s=false):=by
 intro n
 induction n with
 |zero=>
  intro i j h1 h2 h3 h4 h5 h6
  obtain rfl:i=j:=by omega
  exact ⟨i,zg (he i h2 h4),h2,h4,h5,h6⟩
 |succ n ih=>
  intro i j h1 h2 h3 h4 h5 h6
  by_cases h:i=j
  ·subst h
   exact ⟨i,zg (he i h2 h4),h2,h4,h5,h6⟩
  ·have e:=hs i j h2 (by omega) h4
   cases hP:P ((i+j) / 2) with
   |true=>
    rw [hP] at e
    rw [zt e]
    exact ih _ _ (by omega) (by omega) (by omega) h4 (fun _=>by rw [show (i+j) / 2+1-1=(i+j) / 2 by omega];exact hP) h6
   |false=>
    rw [hP] at e
    rw [zt e]
    exact ih _ _ (by omega) h2 (by omega) (by omega) h5 (fun _=>hP)
variable {cmp:za→za→Option Int} {lt:za→za→Bool}
theorem Sd_app {l m:List za}:Sd lt (l++m)↔Sd lt l∧Sd lt m∧ ∀ x∈l,∀ y∈m,lt y x=false:=List.pairwise_append
theorem Sd_nil:Sd lt []:=List.Pairwise.nil
theorem Sd_one (c:za):Sd lt [c]:=List.pairwise_singleton _ _
theorem Sd_cons {c:za}{l:List za}:Sd lt (c::l)↔(∀ y∈l,lt y c=false)∧Sd lt l:=List.pairwise_cons
theorem Sd_mid {l m:List za}{d:za}(hlm:Sd lt (l++m))(h1: ∀ x∈l,lt d x=false)(h2: ∀ y∈m,lt y d=false):Sd lt (l++d::m):=by
 obtain ⟨a,b,c⟩:=Sd_app.1 hlm;refine Sd_app.2 ⟨a,Sd_cons.2 ⟨h2,b⟩,fun x hx y hy=> ?_⟩
 rcases List.mem_cons.1 hy with rfl|hy
 ·exact h1 x hx
 ·exact c x hx y hy
theorem irr (hc:CmpD cmp lt)(x:za):lt x x=false:=by
 cases h:lt x x with
 |false=>rfl
 |true=>have:=hc.asym x x h;rw [h] at this;exact this
theorem le_last (hc:CmpD cmp lt){l:List za}{c d:za}(hs:Sd lt (l++[c]))(h:lt d c=false): ∀ x∈l++[c],lt d x=false:=by
 intro x hx
 rcases List.mem_append.1 hx with hx|hx
 ·exact hc.nt _ _ _ h ((Sd_app.1 hs).2.2 x hx c (by simp))
 ·obtain rfl:=List.mem_singleton.1 hx;exact h
theorem ge_first (hc:CmpD cmp lt){l:List za}{c d:za}(hs:Sd lt (c::l))(h:lt c d=false): ∀ y∈c::l,lt y d=false:=by
 intro y hy
 rcases List.mem_cons.1 hy with rfl|hy
 ·exact h
 ·exact hc.nt _ _ _ ((Sd_cons.1 hs).1 y hy) h
theorem insd_in (hc:CmpD cmp lt)(a:Nat)(p q:List za)(d:za)(ha:a=p.length): ∀ (n:Nat) (l1 l2:List za),l1.length=n→a+n<2305843009213693952→Sd lt (l1++l2)→(∀ y∈l2,lt d y=true)→
 ∃ z,iter (zR (a:Int) cmp) (((a+n:Nat):Int),p++(l1++(d::(l2++q))))=some (p++(z++q))∧z.Perm (l1++d::l2)∧Sd lt z:=by
 intro n
 induction n with
 |zero=>
  intro l1 l2 h1 hB hs hd
  obtain rfl:=List.length_eq_zero_iff.1 h1;refine ⟨d::l2,zg ?_,List.Perm.refl _,Sd_cons.2 ⟨fun y hy=>hc.asym _ _ (hd y hy),hs⟩⟩;unfold zR
  have e:decide (((a+0:Nat):Int)>(a:Int))=false:=by simp
  rw [e];rfl
 |succ n ih=>
  intro l1 l2 h1 hB hs hd
  rcases List.eq_nil_or_concat l1 with rfl|⟨l,c,rfl⟩
  ·simp at h1
  ·simp only [List.concat_eq_append,List.length_append,List.length_singleton,List.append_assoc,List.cons_append,List.nil_append] at h1 hs ⊢
   have hl:l.length=n:=by omega
   have e:decide (((a+(n+1):Nat):Int)>(a:Int))=true:=by simp;omega
   have hw:w64 (((a+(n+1):Nat):Int)-1)=((a+n:Nat):Int):=by rw [w64_dec _ (by omega) (by omega)];rfl
   have r1:at' (p++(l++(c::(d::(l2++q))))) ((a+(n+1):Nat):Int)=some d:=at_mid (p++(l++[c])) d (l2++q) (by simp) (by simp;omega)
   have r2:at' (p++(l++(c::(d::(l2++q))))) ((a+n:Nat):Int)=some c:=at_mid (p++l) c (d::(l2++q)) (by simp) (by simp;omega)
   obtain ⟨v,hv,hlt⟩:=hc.val d c
   cases hl2:lt d c with
   |false=>
    refine ⟨l++(c::(d::l2)),zg ?_,by simp,?_⟩
    ·unfold zR
     rw [e,hw]
     simp only [cond_true,r1,r2,Option.bind_some,hv,hlt,hl2,cond_false]
     simp
    ·have k:=Sd_app.1 (show Sd lt ((l++[c])++l2) by simpa using hs)
     have:=Sd_mid (lt:=lt) (l:=l++[c]) (m:=l2) (d:=d) (by simpa using hs) (le_last hc k.1 hl2) (fun y hy=>hc.asym _ _ (hd y hy))
     simpa using this
   |true=>
    obtain ⟨z,k1,k2,k3⟩:=ih l (c::l2) hl (by omega) (by simpa using hs) (fun y hy=>by
     rcases List.mem_cons.1 hy with rfl|hy
     ·exact hl2
     ·exact hd y hy)
    refine ⟨z,?_,k2.trans (List.Perm.append_left l (List.Perm.swap c d l2)),k3⟩
    simp only [List.cons_append] at k1
    rw [←k1]
    refine zt ?_;unfold zR
    rw [e,hw]
    simp only [cond_true,r1,Option.bind_some]
    rw [r2]
    simp only [Option.bind_some,hv,hlt,hl2,cond_true]
    have sw:=swp' (ρ:=(Int×List za)⊕List za) (p++l) [] (l2++q) c d (L:=p++(l++(c::(d::(l2++q))))) (i:=a+n) (j:=a+(n+1)) (by simp) (by simp;omega) (by simp;omega) (fun v12=>some (.inl (((a+n:Nat):Int),v12)))
    rw [r2,r1] at sw
    simp only [Option.bind_some] at sw
    rw [sw];simp
theorem insd_out (hc:CmpD cmp lt)(a b:Nat)(p q:List za)(ha:a=p.length): ∀ (y z:List za),0<z.length→b=a+z.length+y.length→b<2305843009213693952→Sd lt z→
 ∃ z',iter (zS (a:Int) (b:Int) cmp) (((a+z.length:Nat):Int),p++(z++(y++q)))=some (p++(z'++q))∧z'.Perm (z++y)∧Sd lt z':=by
 intro y
 induction y with
 |nil=>
  intro z hz hb hB hs
  refine ⟨z,zg ?_,by simp,hs⟩;unfold zS
  have e:decide (((a+z.length:Nat):Int)<(b:Int))=false:=by simp at hb ⊢;omega
  rw [e];rfl
 |cons d y ih=>
  intro z hz hb hB hs
  simp only [List.length_cons] at hb
  obtain ⟨z1,k1,k2,k3⟩:=insd_in hc a p (y++q) d ha z.length z [] rfl (by omega) (by simpa using hs) (by simp)
  have hlen:z1.length=z.length+1:=by have:=k2.length_eq;simpa using this
  obtain ⟨z2,m1,m2,m3⟩:=ih z1 (by omega) (by omega) hB k3;refine ⟨z2,?_,m2.trans ?_,m3⟩
  ·rw [←m1]
   refine zt ?_;unfold zS
   have e:decide (((a+z.length:Nat):Int)<(b:Int))=true:=by simp;omega
   simp only [List.nil_append] at k1
   rw [e]
   simp only [cond_true,List.cons_append]
   rw [k1]
   simp only [Option.bind_some]
   rw [w64_inc _ (by omega),hlen]
   simp [Nat.add_assoc]
  ·have:=k2.append_right y
   simpa using this
theorem insd (hc:CmpD cmp lt)(p x q:List za)(a b:Nat)(ha:a=p.length)(hb:b=a+x.length)(hB:b+1<2305843009213693952):
 ∃ z,zy (p++(x++q)) (a:Int) (b:Int) cmp=some (p++(z++q))∧z.Perm x∧Sd lt z:=by
 unfold zy
 rw [w64_inc _ (by omega)]
 cases x with
 |nil=>
  refine ⟨[],?_,List.Perm.refl _,Sd_nil⟩
  rw [zg (q:=p++([]++q)) ?_]
  ·rfl
  ·unfold zS
   have e:decide (((a+1:Nat):Int)<(b:Int))=false:=by simp at hb ⊢;omega
   rw [e];rfl
 |cons c y=>
  obtain ⟨z,k1,k2,k3⟩:=insd_out hc a b p q ha y [c] (by simp) (by simp at hb ⊢;omega) (by omega) (Sd_one c);refine ⟨z,?_,k2,k3⟩
  simp only [List.length_singleton,List.cons_append,List.nil_append] at k1 ⊢
  rw [k1];rfl
variable {cmp:za→za→Option Int} {lt:za→za→Bool}
abbrev Mrg:=List za→Int→Int→Int→(za→za→Option Int)→Option (List za)
def symT (frec:Mrg)(cmp:za→za→Option Int)(D:List za)(mid e b:Int):Option (List za):=
 (bif (decide (mid<e)) then (bif (decide (e<b)) then (frec D mid e b cmp).bind fun v=>(eqn v.length D.length).bind fun _=>some v else some D) else some D)
def symU (frec:Mrg)(cmp:za→za→Option Int)(D:List za)(a s mid e b:Int):Option (List za):=
 ((bif (decide (a<s)) then some (decide (s<mid)) else some false):Option (Bool)).bind (fun (q:Bool)=>(bif q then (frec D a s mid cmp).bind fun v=>(eqn v.length D.length).bind fun _=>symT frec cmp v mid e b else symT frec cmp D mid e b))
noncomputable def symK (frec:Mrg)(cmp:za→za→Option Int)(data:List za)(a m b:Int)(q:Int×Int×Int):Option (List za):=
 ((bif (decide (q.2.2<m)) then some (decide (m<(w64 (q.2.1-q.2.2)))) else some false):Option (Bool)).bind (fun (q':Bool)=>(bif q' then (qq data q.2.2 m (w64 (q.2.1-q.2.2)) cmp).bind fun v=>(eqn v.length data.length).bind fun _=>symU frec cmp v a q.2.2 q.1 (w64 (q.2.1-q.2.2)) b else symU frec cmp data a q.2.2 q.1 (w64 (q.2.1-q.2.2)) b))
theorem symF_eq (frec:Mrg)(data:List za)(a m b:Int)(cmp:za→za→Option Int):z8 frec data a m b cmp=
 (bif ((w64 (m-a))==1) then (iter (zX data a cmp) (m,b)).bind (fun (q5:Int)=>(iter (zZ q5) (a,data)).bind (fun (q13:(List za))=>some q13)) else (bif ((w64 (b-m))==1) then (iter (z6 data m cmp) (a,m)).bind (fun (q18:Int)=>(iter (zY q18) (m,data)).bind (fun (q26:(List za))=>some q26)) else (bif (decide (m>(w64 ((v64 (w64 (a+b))).fdiv (2^1))))) then (iter (zM data a m b cmp) ((w64 ((w64 ((w64 ((v64 (w64 (a+b))).fdiv (2^1)))+m))-b)),(w64 ((v64 (w64 (a+b))).fdiv (2^1))))).bind (symK frec cmp data a m b) else (iter (qY data a m b cmp) (a,m)).bind (symK frec cmp data a m b)))):=rfl
theorem shr_loop (s:Nat)(p q:List za)(d:za): ∀ (y2 y1:List za),s=p.length+y1.length+y2.length+1→s<2305843009213693952→
 iter (zZ (s:Int)) (((p.length+y1.length:Nat):Int),p++(y1++(d::(y2++q))))=some (p++(y1++(y2++(d::q)))):=by
 intro y2
 induction y2 with
 |nil=>
  intro y1 hs hB
  simp only [List.length_nil] at hs
  refine zg ?_;unfold zZ
  rw [w64_dec s (by omega) (by omega)]
  have e:decide (((p.length+y1.length:Nat):Int)<((s-1:Nat):Int))=false:=by simp;omega
  rw [e];rfl
 |cons c y2 ih=>
  intro y1 hs hB
  simp only [List.length_cons] at hs
  have k:=ih (y1++[c]) (by simp;omega) hB
  simp only [List.append_assoc,List.cons_append,List.nil_append,List.length_append,List.length_singleton] at k ⊢
  rw [←k]
  refine zt ?_;unfold zZ
  rw [w64_dec s (by omega) (by omega)]
  have e:decide (((p.length+y1.length:Nat):Int)<((s-1:Nat):Int))=true:=by simp;omega
  simp only [e,cond_true]
  rw [w64_inc _ (by omega),swp (p++y1) [] (y2++q) d c (by simp) (by simp) (by simp)]
  simp [Nat.add_assoc]
theorem shl_loop (s:Nat)(p q:List za)(d:za)(hs:s=p.length): ∀ (n:Nat) (x1 x2:List za),x1.length=n→s+n<2305843009213693952→
 iter (zY (s:Int)) (((s+n:Nat):Int),p++(x1++(d::(x2++q))))=some (p++(d::(x1++(x2++q)))):=by
 intro n
 induction n with
 |zero=>
  intro x1 x2 h hB
  obtain rfl:=List.length_eq_zero_iff.1 h;refine zg ?_;unfold zY
  have e:decide (((s+0:Nat):Int)>(s:Int))=false:=by simp
  rw [e];rfl
 |succ n ih=>
  intro x1 x2 h hB
  rcases List.eq_nil_or_concat x1 with rfl|⟨l,c,rfl⟩
  ·simp at h
  ·simp only [List.concat_eq_append,List.length_append,List.length_singleton,List.append_assoc,List.cons_append,List.nil_append] at h ⊢
   have k:=ih l (c::x2) (by omega) (by omega)
   simp only [List.cons_append] at k
   rw [←k]
   refine zt ?_;unfold zY
   have e:decide (((s+(n+1):Nat):Int)>(s:Int))=true:=by simp;omega
   simp only [e,cond_true]
   rw [w64_dec _ (by omega) (by omega),show s+(n+1)-1=s+n by omega,swp' (p++l) [] (x2++q) c d (by simp) (by simp;omega) (by simp;omega)]
   simp
theorem split_at (l:List za)(n:Nat)(h:n≤l.length): ∃ l1 l2,l=l1++l2∧l1.length=n:=⟨l.take n,l.drop n,(List.take_append_drop _ _).symm,by simp;omega⟩
theorem sym_one (hc:CmpD cmp lt)(p y q:List za)(d:za)(a m b:Nat)(ha:a=p.length)(hm:m=a+1)(hb:b=m+y.length)(hB:b<1152921504606846976)(hy:Sd lt y):
 ∃ z,((iter (zX (p++(d::(y++q))) (a:Int) cmp) ((m:Int),(b:Int))).bind fun (q5:Int)=>(iter (zZ q5) ((a:Int),p++(d::(y++q)))).bind fun q13=>some q13)=some (p++(z++q))∧z.Perm (d::y)∧Sd lt z:=by
 obtain ⟨s,k1,k2,k3,k4,k5⟩:=bs_loop (zX (p++(d::(y++q))) (a:Int) cmp) (fun h=>match (p++(d::(y++q)))[h]? with|some v=>lt v d|none=>false) (fun s=>(s:Int)) m b
  (fun i j h1 h2 h3=>by
   unfold zX
   have e:decide ((i:Int)<(j:Int))=true:=by simp;omega
   simp only [e,cond_true]
   rw [half i j (by omega)]
   have hl:(i+j) / 2<(p++(d::(y++q))).length:=by simp;omega
   rw [z7 hl,at_mid p d (y++q) rfl ha]
   simp only [Option.bind_some]
   obtain ⟨v,hv,hlt⟩:=hc.val (p++(d::(y++q)))[(i+j) / 2] d
   rw [hv]
   simp only [Option.bind_some,hlt,List.getElem?_eq_getElem hl]
   cases lt (p++(d::(y++q)))[(i+j) / 2] d
   ·rfl
   ·rw [w64_inc _ (by omega)];rfl)
  (fun i h1 h2=>by
   unfold zX
   have e:decide ((i:Int)<(i:Int))=false:=by simp
   rw [e];rfl) (b-m) m b (Nat.le_refl _) (Nat.le_refl _) (by omega) (Nat.le_refl _) (by omega) (by omega)
 obtain ⟨y1,y2,rfl,hl⟩:=split_at y (s-m) (by omega)
 rw [k1]
 simp only [Option.bind_some,List.append_assoc]
 have sh:=shr_loop s p (y2++q) d y1 [] (by simp;omega) (by omega)
 simp only [List.length_nil,Nat.add_zero,List.nil_append] at sh
 rw [ha,sh]
 refine ⟨y1++(d::y2),by simp,List.perm_middle,Sd_mid hy ?_ ?_⟩
 ·rcases List.eq_nil_or_concat y1 with rfl|⟨l,c,rfl⟩
  ·simp
  ·simp only [List.concat_eq_append,List.length_append,List.length_singleton] at hl hy ⊢
   have:=k4 (by omega)
   rw [show (p++(d::(((l.concat c)++y2)++q)))[s-1]? =some c by
    rw [show p++(d::(((l.concat c)++y2)++q))=(p++(d::l))++c::(y2++q) by simp]
    rw [List.getElem?_append_right (by simp;omega),show s-1-(p++d::l).length=0 by simp;omega];rfl] at this
   exact le_last hc (Sd_app.1 hy).1 (hc.asym _ _ this)
 ·cases y2 with
  |nil=>simp
  |cons c l=>
   simp only [List.length_append,List.length_cons] at hb
   have:=k5 (by omega)
   rw [show (p++(d::((y1++(c::l))++q)))[s]? =some c by
    rw [show p++(d::((y1++(c::l))++q))=(p++(d::y1))++c::(l++q) by simp]
    rw [List.getElem?_append_right (by simp;omega),show s-(p++d::y1).length=0 by simp;omega];rfl] at this
   exact ge_first hc (Sd_app.1 hy).2.1 this
theorem sym_two (hc:CmpD cmp lt)(p x q:List za)(d:za)(a m b:Nat)(ha:a=p.length)(hm:m=a+x.length)(hB:m<1152921504606846976)(hx:Sd lt x):
 ∃ z,((iter (z6 (p++(x++(d::q))) (m:Int) cmp) ((a:Int),(m:Int))).bind fun (q18:Int)=>(iter (zY q18) ((m:Int),p++(x++(d::q)))).bind fun q26=>some q26)=some (p++(z++q))∧z.Perm (x++[d])∧Sd lt z:=by
 obtain ⟨s,k1,k2,k3,k4,k5⟩:=bs_loop (z6 (p++(x++(d::q))) (m:Int) cmp) (fun h=>match (p++(x++(d::q)))[h]? with|some v=> !(lt d v)|none=>false) (fun s=>(s:Int)) a m
  (fun i j h1 h2 h3=>by
   unfold z6
   have e:decide ((i:Int)<(j:Int))=true:=by simp;omega
   simp only [e,cond_true]
   rw [half i j (by omega)]
   have hl:(i+j) / 2<(p++(x++(d::q))).length:=by simp;omega
   rw [z7 hl,at_mid (p++x) d q (by simp) (by simp;omega)]
   simp only [Option.bind_some]
   obtain ⟨v,hv,hlt⟩:=hc.val d (p++(x++(d::q)))[(i+j) / 2]
   rw [hv]
   simp only [Option.bind_some,hlt,List.getElem?_eq_getElem hl]
   cases lt d (p++(x++(d::q)))[(i+j) / 2]
   ·simp only [Bool.not_false,cond_true]
    rw [w64_inc _ (by omega)]
   ·rfl)
  (fun i h1 h2=>by
   unfold z6
   have e:decide ((i:Int)<(i:Int))=false:=by simp
   rw [e];rfl) (m-a) a m (Nat.le_refl _) (Nat.le_refl _) (by omega) (Nat.le_refl _) (by omega) (by omega)
 obtain ⟨x1,x2,rfl,hl⟩:=split_at x (s-a) (by omega)
 rw [k1]
 simp only [List.length_append] at hm
 have sh:=shl_loop s (p++x1) q d (by simp;omega) x2.length x2 [] rfl (by omega)
 simp only [List.nil_append,List.append_assoc,show s+x2.length=m by omega] at sh
 simp only [Option.bind_some,List.append_assoc]
 rw [sh]
 refine ⟨x1++(d::x2),by simp,by simpa using (List.perm_append_comm (l₁:=[d]) (l₂:=x2)).append_left x1,Sd_mid hx ?_ ?_⟩
 ·rcases List.eq_nil_or_concat x1 with rfl|⟨l,c,rfl⟩
  ·simp
  ·simp only [List.concat_eq_append,List.length_append,List.length_singleton] at hl hx ⊢
   have:=k4 (by omega)
   rw [show (p++(((l.concat c)++x2)++(d::q)))[s-1]? =some c by
    rw [show p++(((l.concat c)++x2)++(d::q))=(p++l)++c::(x2++(d::q)) by simp]
    rw [List.getElem?_append_right (by simp;omega),show s-1-(p++l).length=0 by simp;omega];rfl] at this
   simp only [Bool.not_eq_true'] at this
   exact le_last hc (Sd_app.1 hx).1 this
 ·cases x2 with
  |nil=>simp
  |cons c l=>
   simp only [List.length_cons] at hm
   have:=k5 (by omega)
   rw [show (p++((x1++(c::l))++(d::q)))[s]? =some c by
    rw [show p++((x1++(c::l))++(d::q))=(p++x1)++c::(l++(d::q)) by simp]
    rw [List.getElem?_append_right (by simp;omega),show s-(p++x1).length=0 by simp;omega];rfl] at this
   simp only [Bool.not_eq_false'] at this
   exact ge_first hc (Sd_app.1 hx).2.1 (hc.asym _ _ this)
variable {cmp:za→za→Option Int} {lt:za→za→Bool}
theorem b6_eq:qY=zM:=rfl
theorem cut (hc:CmpD cmp lt)(L:List za)(a m b lo hi:Nat)(hB:a+b+m<1152921504606846976)(h1:lo≤hi)(h2:hi≤L.length)(h3:hi≤(a+b) / 2+m)(h4:(a+b) / 2+m≤lo+L.length):
 ∃ s:Nat,iter (zM L (a:Int) (m:Int) (b:Int) cmp) ((lo:Int),(hi:Int))=some ((((a+b) / 2:Nat):Int),(((a+b) / 2+m:Nat):Int),(s:Int))∧lo≤s∧s≤hi∧
  (lo<s→ ∃ u v,L[(a+b) / 2+m-s]? =some u∧L[s-1]? =some v∧lt u v=false)∧(s<hi→ ∃ u v,L[(a+b) / 2+m-1-s]? =some u∧L[s]? =some v∧lt u v=true):=by
 obtain ⟨s,k1,k2,k3,k4,k5⟩:=bs_loop (zM L (a:Int) (m:Int) (b:Int) cmp) (fun h=>match L[(a+b) / 2+m-1-h]?,L[h]? with|some u,some v=> !(lt u v)|_,_=>false) (fun s=>((((a+b) / 2:Nat):Int),(((a+b) / 2+m:Nat):Int),(s:Int))) lo hi
  (fun i j g1 g2 g3=>by
   unfold zM
   have e:decide ((i:Int)<(j:Int))=true:=by simp;omega
   simp only [e,cond_true]
   rw [half i j (by omega),half a b (by omega),zam _ m (by omega),w64_dec _ (by omega) (by omega),J1 _ _ (by omega) (by omega)]
   have hl:(i+j) / 2<L.length:=by omega
   have hl2:(a+b) / 2+m-1-(i+j) / 2<L.length:=by omega
   rw [z7 hl,z7 hl2]
   simp only [Option.bind_some]
   obtain ⟨v,hv,hlt⟩:=hc.val L[(a+b) / 2+m-1-(i+j) / 2] L[(i+j) / 2]
   rw [hv]
   simp only [Option.bind_some,hlt,List.getElem?_eq_getElem hl,List.getElem?_eq_getElem hl2]
   cases lt L[(a+b) / 2+m-1-(i+j) / 2] L[(i+j) / 2]
   ·simp only [Bool.not_false,cond_true]
    rw [w64_inc _ (by omega)]
   ·rfl)
  (fun i g1 g2=>by
   unfold zM
   have e:decide ((i:Int)<(i:Int))=false:=by simp
   rw [half a b (by omega),zam _ m (by omega),e];rfl) (hi-lo) lo hi (Nat.le_refl _) (Nat.le_refl _) h1 (Nat.le_refl _) (by omega) (by omega)
 refine ⟨s,k1,k2,k3,fun hs=> ?_,fun hs=> ?_⟩
 ·have hl:s-1<L.length:=by omega
  have hl2:(a+b) / 2+m-1-(s-1)<L.length:=by omega
  have:=k4 hs
  simp only [List.getElem?_eq_getElem hl,List.getElem?_eq_getElem hl2,Bool.not_eq_true'] at this
  refine ⟨_,_,?_,List.getElem?_eq_getElem hl,this⟩
  rw [show (a+b) / 2+m-s=(a+b) / 2+m-1-(s-1) by omega]
  exact List.getElem?_eq_getElem hl2
 ·have hl:s<L.length:=by omega
  have hl2:(a+b) / 2+m-1-s<L.length:=by omega
  have:=k5 hs
  simp only [List.getElem?_eq_getElem hl,List.getElem?_eq_getElem hl2,Bool.not_eq_false'] at this
  exact ⟨_,_,List.getElem?_eq_getElem hl2,List.getElem?_eq_getElem hl,this⟩
theorem and_if (c d:Bool){ρ:Type}(k:Bool→Option ρ):((bif c then some d else some false:Option Bool)).bind k=k (c&&d):=by cases c<;>rfl
def MergesTo (lt:za→za→Bool)(frec:Mrg)(cmp:za→za→Option Int)(N:Nat):Prop:= ∀ (x y p q:List za) (a m b:Nat),x.length+y.length≤N→0<x.length→0<y.length→a=p.length→m=a+x.length→b=m+y.length→b<144115188075855872→Sd lt x→Sd lt y→
 ∃ z,frec (p++(x++(y++q))) (a:Int) (m:Int) (b:Int) cmp=some (p++(z++q))∧z.Perm (x++y)∧Sd lt z
theorem symT_ok (frec:Mrg)(N:Nat)(ih:MergesTo lt frec cmp N)(x y p q:List za)(a m b:Nat)(hN:x.length+y.length≤N)(ha:a=p.length)(hm:m=a+x.length)(hb:b=m+y.length)(hB:b<144115188075855872)(hx:Sd lt x)(hy:Sd lt y):
 ∃ z,symT frec cmp (p++(x++(y++q))) (a:Int) (m:Int) (b:Int)=some (p++(z++q))∧z.Perm (x++y)∧Sd lt z:=by
 unfold symT
 by_cases h1:x.length=0
 ·obtain rfl:=List.length_eq_zero_iff.1 h1
  simp only [List.length_nil] at hm
  have e:decide ((a:Int)<(m:Int))=false:=by simp;omega
  rw [e]
  exact ⟨y,rfl,by simp,hy⟩
 ·have e:decide ((a:Int)<(m:Int))=true:=by simp;omega
  rw [e]
  by_cases h2:y.length=0
  ·obtain rfl:=List.length_eq_zero_iff.1 h2
   simp only [List.length_nil] at hb
   have e:decide ((m:Int)<(b:Int))=false:=by simp;omega
   rw [e]
   exact ⟨x,rfl,by simp,hx⟩
  ·have e:decide ((m:Int)<(b:Int))=true:=by simp;omega
   rw [e]
   obtain ⟨z,k1,k2,k3⟩:=ih x y p q a m b hN (by omega) (by omega) ha hm hb hB hx hy;refine ⟨z,?_,k2,k3⟩
   have hl:=k2.length_eq
   simp only [cond_true,k1,Option.bind_some]
   rw [eqn_of (by simp at hl ⊢;omega)];rfl
theorem symU_ok (frec:Mrg)(N:Nat)(ih:MergesTo lt frec cmp N)(x y p r:List za)(a m b e c:Nat)(hN:x.length+y.length≤N)(ha:a=p.length)(hm:m=a+x.length)(hb:b=m+y.length)(hB:b<144115188075855872)(hx:Sd lt x)(hy:Sd lt y):
 ∃ z,symU frec cmp (p++(x++(y++r))) (a:Int) (m:Int) (b:Int) (e:Int) (c:Int)=symT frec cmp (p++(z++r)) (b:Int) (e:Int) (c:Int)∧z.Perm (x++y)∧Sd lt z:=by
 unfold symU
 rw [and_if]
 by_cases h1:x.length=0
 ·obtain rfl:=List.length_eq_zero_iff.1 h1
  simp only [List.length_nil] at hm
  have e:decide ((a:Int)<(m:Int))=false:=by simp;omega
  rw [e]
  exact ⟨y,rfl,by simp,hy⟩
 ·have e:decide ((a:Int)<(m:Int))=true:=by simp;omega
  rw [e]
  by_cases h2:y.length=0
  ·obtain rfl:=List.length_eq_zero_iff.1 h2
   simp only [List.length_nil] at hb
   have e:decide ((m:Int)<(b:Int))=false:=by simp;omega
   rw [e]
   exact ⟨x,by simp,by simp,hx⟩
  ·have e:decide ((m:Int)<(b:Int))=true:=by simp;omega
   rw [e]
   obtain ⟨z,k1,k2,k3⟩:=ih x y p r a m b hN (by omega) (by omega) ha hm hb hB hx hy;refine ⟨z,?_,k2,k3⟩
   have hl:=k2.length_eq
   simp only [Bool.and_self,cond_true,k1,Option.bind_some]
   rw [eqn_of (by simp at hl ⊢;omega)];rfl
theorem symK_ok (frec:Mrg)(N:Nat)(ih:MergesTo lt frec cmp N)(x1 x2 y1 y2 p q:List za)(a s m e mid n b:Nat)(hN1:x1.length+y1.length≤N)(hN2:x2.length+y2.length≤N)(ha:a=p.length)(hs:s=a+x1.length)(hm:m=s+x2.length)(he:e=m+y1.length)(hb:b=e+y2.length)(hmid:mid=s+y1.length)(hn:n=e+s)(hB':n<1152921504606846976)(hB:b<144115188075855872)
 (hx:Sd lt (x1++x2)) (hy:Sd lt (y1++y2)) (c1: ∀ u∈x1,∀ v∈y2,lt v u=false) (c2: ∀ u∈y1,∀ v∈x2,lt v u=false):
 ∃ z,symK frec cmp (p++(x1++(x2++(y1++(y2++q))))) (a:Int) (m:Int) (b:Int) ((mid:Int),(n:Int),(s:Int))=some (p++(z++q))∧z.Perm (x1++(x2++(y1++y2)))∧Sd lt z:=by
 obtain ⟨hx1,hx2,hx3⟩:=Sd_app.1 hx;obtain ⟨hy1,hy2,hy3⟩:=Sd_app.1 hy
 have stepA:symK frec cmp (p++(x1++(x2++(y1++(y2++q))))) (a:Int) (m:Int) (b:Int) ((mid:Int),(n:Int),(s:Int))=symU frec cmp (p++(x1++(y1++(x2++(y2++q))))) (a:Int) (s:Int) (mid:Int) (e:Int) (b:Int):=by
  unfold symK
  simp only
  rw [and_if,J1 n s (by omega) (by omega),show n-s=e by omega]
  by_cases h1:x2.length=0
  ·obtain rfl:=List.length_eq_zero_iff.1 h1
   have g:decide ((s:Int)<(m:Int))=false:=by simp at hm ⊢;omega
   rw [g];simp
  ·have g:decide ((s:Int)<(m:Int))=true:=by simp;omega
   rw [g]
   by_cases h2:y1.length=0
   ·obtain rfl:=List.length_eq_zero_iff.1 h2
    have g:decide ((m:Int)<(e:Int))=false:=by simp at he ⊢;omega
    rw [g];simp
   ·have g:decide ((m:Int)<(e:Int))=true:=by simp;omega
    rw [g]
    have r:=rot cmp (p++x1) x2 y1 (y2++q) s m e (by omega) (by omega) (by simp;omega) (by omega) (by omega) (by omega)
    simp only [List.append_assoc] at r
    simp only [Bool.and_self,cond_true,r,Option.bind_some]
    rw [eqn_of (by simp;omega)];rfl
 rw [stepA]
 obtain ⟨z1,k1,k2,k3⟩:=symU_ok (lt:=lt) frec N ih x1 y1 p (x2++(y2++q)) a s mid e b hN1 ha hs hmid (by omega) hx1 hy1
 rw [k1]
 have hl1:=k2.length_eq
 simp only [List.length_append] at hl1
 obtain ⟨z2,m1,m2,m3⟩:=symT_ok (lt:=lt) (cmp:=cmp) frec N ih x2 y2 (p++z1) q mid e b hN2 (by simp;omega) (by omega) (by omega) (by omega) hx2 hy2
 simp only [List.append_assoc] at m1
 rw [m1]
 refine ⟨z1++z2,by simp,?_,Sd_app.2 ⟨k3,m3,fun u hu v hv=> ?_⟩⟩
 ·refine (k2.append m2).trans ?_
  rw [List.append_assoc]
  refine List.Perm.append_left x1 ?_
  rw [←List.append_assoc,←List.append_assoc]
  exact List.Perm.append_right y2 List.perm_append_comm
 ·have hu':=k2.mem_iff.1 hu
  have hv':=m2.mem_iff.1 hv
  rcases List.mem_append.1 hu' with hu|hu<;>rcases List.mem_append.1 hv' with hv|hv
  ·exact hx3 u hu v hv
  ·exact c1 u hu v hv
  ·exact c2 u hu v hv
  ·exact hy3 u hu v hv
theorem get_app {L:List za}{c:za}{i:Nat}{u:za}(h:L[i]? =some u)(l1 r:List za)(hL:L=l1++c::r)(hi:i=l1.length):u=c:=by
 subst hi hL
 rw [List.getElem?_append_right (Nat.le_refl _),Nat.sub_self] at h
 cases h;rfl
theorem sym (hc:CmpD cmp lt): ∀ N,MergesTo lt (zw N) cmp N:=by
 intro N
 induction N with
 |zero=>intro x y p q a m b h h1;omega
 |succ N ih=>
  intro x y p q a m b hN hx0 hy0 ha hm hb hB hx hy
  show ∃ z,z8 (zw N) (p++(x++(y++q))) (a:Int) (m:Int) (b:Int) cmp=some (p++(z++q))∧z.Perm (x++y)∧Sd lt z
  rw [symF_eq,J1 m a (by omega) (by omega),J1 b m (by omega) (by omega),half a b (by omega)]
  by_cases h1:x.length=1
  ·have e:(((m-a:Nat):Int)==1)=true:=by simp;omega
   rw [e]
   match x,h1 with
   |[d],_=>exact sym_one hc p y q d a m b ha (by simpa using hm) hb (by omega) hy
  ·have e:(((m-a:Nat):Int)==1)=false:=by simp;omega
   rw [e]
   by_cases h2:y.length=1
   ·have e:(((b-m:Nat):Int)==1)=true:=by simp;omega
    rw [e]
    match y,h2 with
    |[d],_=>exact sym_two hc p x q d a m b ha hm (by omega) hx
   ·have e:(((b-m:Nat):Int)==1)=false:=by simp;omega
    rw [e]
    simp only [cond_false]
    have hL:(p++(x++(y++q))).length=b+q.length:=by simp;omega
    have fin: ∀ s lo hi:Nat,lo≤s→s≤hi→((a+b) / 2<m→lo=(a+b) / 2+m-b∧hi=(a+b) / 2)→(m≤(a+b) / 2→lo=a∧hi=m)→
     (lo<s→ ∃ u v,(p++(x++(y++q)))[(a+b) / 2+m-s]? =some u∧(p++(x++(y++q)))[s-1]? =some v∧lt u v=false)→(s<hi→ ∃ u v,(p++(x++(y++q)))[(a+b) / 2+m-1-s]? =some u∧(p++(x++(y++q)))[s]? =some v∧lt u v=true)→
     ∃ z,symK (zw N) cmp (p++(x++(y++q))) (a:Int) (m:Int) (b:Int) ((((a+b) / 2:Nat):Int),(((a+b) / 2+m:Nat):Int),(s:Int))=some (p++(z++q))∧z.Perm (x++y)∧Sd lt z:=by
     intro s lo hi g1 g2 g3 g4 g5 g6
     obtain ⟨x1,x2,rfl,hx1⟩:=split_at x (s-a) (by omega);obtain ⟨y1,y2,rfl,hy1⟩:=split_at y ((a+b) / 2+m-s-m) (by omega)
     simp only [List.length_append] at*
     obtain ⟨k1,k2,k3⟩:=Sd_app.1 hx;obtain ⟨j1,j2,j3⟩:=Sd_app.1 hy
     have c1: ∀ u∈x1,∀ v∈y2,lt v u=false:=by
      rcases List.eq_nil_or_concat x1 with rfl|⟨l,c,rfl⟩
      ·simp
      ·cases y2 with
       |nil=>simp
       |cons d r=>
        simp only [List.concat_eq_append,List.length_append,List.length_singleton,List.length_cons,List.length_nil,Nat.zero_add] at*
        obtain ⟨u,v,e1,e2,e3⟩:=g5 (by omega)
        have hu:u=d:=get_app e1 (p++((l++[c])++(x2++y1))) (r++q) (by simp) (by simp;omega)
        have hv:v=c:=get_app e2 (p++l) (x2++(y1++(d::(r++q)))) (by simp) (by simp;omega)
        subst hu hv
        intro w hw v' hv'
        exact hc.nt _ _ _ (ge_first (d:=u) hc j2 (irr hc u) v' hv') (le_last hc k1 e3 w hw)
     have c2: ∀ u∈y1,∀ v∈x2,lt v u=false:=by
      rcases List.eq_nil_or_concat y1 with rfl|⟨l,c,rfl⟩
      ·simp
      ·cases x2 with
       |nil=>simp
       |cons d r=>
        simp only [List.concat_eq_append,List.length_append,List.length_singleton,List.length_cons,List.length_nil,Nat.zero_add] at*
        obtain ⟨u,v,e1,e2,e3⟩:=g6 (by omega)
        have hu:u=c:=get_app e1 (p++(x1++((d::r)++l))) (y2++q) (by simp) (by simp;omega)
        have hv:v=d:=get_app e2 (p++x1) (r++((l++[c])++(y2++q))) (by simp) (by simp;omega)
        subst hu hv
        intro w hw v' hv'
        exact hc.nt _ _ _ (ge_first (d:=v) hc k2 (irr hc v) v' hv') (le_last hc j1 (hc.asym _ _ e3) w hw)
     obtain ⟨z,m1,m2,m3⟩:=symK_ok (lt:=lt) (cmp:=cmp) (zw N) N ih x1 x2 y1 y2 p q a s m ((a+b) / 2+m-s) ((a+b) / 2) ((a+b) / 2+m) b (by omega) (by omega) ha (by omega) (by omega) (by omega) (by omega) (by omega) (by omega) (by omega) hB hx hy c1 c2
     simp only [List.append_assoc]
     exact ⟨z,m1,m2,m3⟩
    by_cases h3:(a+b) / 2<m
    ·have e:decide ((m:Int)>(((a+b) / 2:Nat):Int))=true:=by simp;omega
     rw [e]
     simp only [cond_true]
     rw [zam _ m (by omega),J1 _ b (by omega) (by omega)]
     obtain ⟨s,k1,k2,k3,k4,k5⟩:=cut hc (p++(x++(y++q))) a m b ((a+b) / 2+m-b) ((a+b) / 2) (by omega) (by omega) (by omega) (by omega) (by omega)
     rw [k1]
     exact fin s _ _ k2 k3 (fun _=>⟨rfl,rfl⟩) (fun h=>by omega) k4 k5
    ·have e:decide ((m:Int)>(((a+b) / 2:Nat):Int))=false:=by simp;omega
     rw [e]
     simp only [cond_false]
     rw [b6_eq]
     obtain ⟨s,k1,k2,k3,k4,k5⟩:=cut hc (p++(x++(y++q))) a m b a m (by omega) (by omega) (by omega) (by omega) (by omega)
     rw [k1]
     exact fin s _ _ k2 k3 (fun h=>by omega) (fun _=>⟨rfl,rfl⟩) k4 k5
variable {cmp:za→za→Option Int} {lt:za→za→Bool}
theorem symT_le {f g:Mrg}(h: ∀ D a m b c,Le (f D a m b c) (g D a m b c))(D mid e b):Le (symT f cmp D mid e b) (symT g cmp D mid e b):=by
 unfold symT
 repeat' first|with_reducible refine Le.bif _ ?_ ?_|apply h|with_reducible refine Le.bind ?_ ?_|with_reducible exact Le.refl _|intro _
theorem symU_le {f g:Mrg}(h: ∀ D a m b c,Le (f D a m b c) (g D a m b c))(D a s mid e b):Le (symU f cmp D a s mid e b) (symU g cmp D a s mid e b):=by
 unfold symU
 repeat' first|with_reducible exact Le.refl _|apply symT_le h|apply h|with_reducible refine Le.bif _ ?_ ?_|with_reducible refine Le.bind ?_ ?_|intro _
theorem symK_le {f g:Mrg}(h: ∀ D a m b c,Le (f D a m b c) (g D a m b c))(D a m b q):Le (symK f cmp D a m b q) (symK g cmp D a m b q):=by
 unfold symK
 repeat' first|with_reducible exact Le.refl _|apply symU_le h|with_reducible refine Le.bif _ ?_ ?_|with_reducible refine Le.bind ?_ ?_|intro _
theorem symF_le {f g:Mrg}(h: ∀ D a m b c,Le (f D a m b c) (g D a m b c))(D a m b c):Le (z8 f D a m b c) (z8 g D a m b c):=by
 rw [symF_eq,symF_eq]
 repeat' first|with_reducible exact Le.refl _|apply symK_le h|with_reducible refine Le.bif _ ?_ ?_|with_reducible refine Le.bind ?_ ?_|intro _
theorem symN_le: ∀ n D a m b c,Le (zw n D a m b c) (zw (n+1) D a m b c)
 |0,D,a,m,b,c=>fun r hr=>by cases hr
 |n+1,D,a,m,b,c=>symF_le (symN_le n) D a m b c
theorem symN_more (n k:Nat)(D a m b c):Le (zw n D a m b c) (zw (n+k) D a m b c):=by
 induction k with
 |zero=>exact Le.refl _
 |succ k ih=>exact fun r hr=>symN_le (n+k) D a m b c r (ih r hr)
theorem sym_all (hc:CmpD cmp lt)(N:Nat):MergesTo lt qz cmp N:=by
 intro x y p q a m b hN h1 h2 ha hm hb hB hx hy
 obtain ⟨z,k1,k2,k3⟩:=sym hc N x y p q a m b hN h1 h2 ha hm hb hB hx hy;refine ⟨z,?_,k2,k3⟩;unfold qz;refine lim_of (fun n q' h=> ?_) k1
 have e1:=symN_more n N _ _ _ _ _ _ h
 have e2:=symN_more N n _ _ _ _ _ _ k1
 rw [Nat.add_comm] at e2
 rw [e1] at e2
 exact (Option.some.inj e2)
inductive Blk (lt:za→za→Bool) (bs:Nat):List za→Prop
 |last {l:List za}:l.length≤bs→Sd lt l→Blk lt bs l
 |cons {x l:List za}:x.length=bs→Sd lt x→Blk lt bs l→Blk lt bs (x++l)
theorem Blk.take {bs:Nat}{l:List za}(h:Blk lt bs l)(hl:bs≤l.length): ∃ x r,l=x++r∧x.length=bs∧Sd lt x∧Blk lt bs r:=by
 cases h with
 |last h1 h2=>exact ⟨l,[],by simp,by omega,h2,.last (by simp) Sd_nil⟩
 |cons h1 h2 h3=>exact ⟨_,_,rfl,h1,h2,h3⟩
theorem Blk.short {bs:Nat}{l:List za}(h:Blk lt bs l)(hl:l.length≤bs):Sd lt l:=by
 induction h with
 |last h1 h2=>exact h2
 | @cons x r h1 h2 h3 ih=>
  simp only [List.length_append] at hl
  obtain rfl:r=[]:=List.length_eq_zero_iff.1 (by omega)
  simpa using h2
theorem blocks (hc:CmpD cmp lt)(n:Nat): ∀ (k:Nat) (p r:List za) (a:Nat),r.length≤k→a=p.length→n=a+r.length→n<2305843009213693→
 ∃ r',((iter (zI (n:Int) cmp) ((a:Int),(((a+20:Nat):Int),p++r))).bind fun (q4:Int×(List za))=>(zy q4.2 q4.1 (n:Int) cmp).bind fun v5=>(eqn v5.length q4.2.length).bind fun _=>some v5)=some (p++r')∧r'.Perm r∧Blk lt 20 r':=by
 intro k
 induction k with
 |zero=>
  intro p r a hk ha hn hB
  obtain rfl:=List.length_eq_zero_iff.1 (Nat.le_zero.1 hk)
  simp only [List.length_nil,Nat.add_zero] at hn
  refine ⟨[],?_,List.Perm.refl _,.last (by simp) Sd_nil⟩
  rw [zg (q:=((a:Int),p++[])) (by
   unfold zI
   have e:decide (((a+20:Nat):Int)≤(n:Int))=false:=by simp;omega
   simp only [e,cond_false])]
  obtain ⟨z,k1,k2,k3⟩:=insd hc p [] [] a n ha (by simpa using hn) (by omega)
  have hz:z=[]:=List.Perm.eq_nil k2
  subst hz
  simp only [List.append_nil] at k1
  simp only [Option.bind_some,List.append_nil,k1]
  rw [eqn_of rfl];rfl
 |succ k ih=>
  intro p r a hk ha hn hB
  by_cases h:20≤r.length
  ·obtain ⟨x,r1,rfl,hx⟩:=split_at r 20 h
   simp only [List.length_append] at hk hn
   obtain ⟨z,k1,k2,k3⟩:=insd hc p x r1 a (a+20) ha (by omega) (by omega)
   have hz:=k2.length_eq
   obtain ⟨r2,m1,m2,m3⟩:=ih (p++z) r1 (a+20) (by omega) (by simp;omega) (by omega) hB;refine ⟨z++r2,?_,(k2.append m2),.cons (by omega) k3 m3⟩
   simp only [List.append_assoc] at m1
   rw [←m1]
   congr 1
   refine zt ?_;unfold zI
   have e:decide (((a+20:Nat):Int)≤(n:Int))=true:=by simp;omega
   simp only [e,cond_true,k1,Option.bind_some]
   rw [eqn_of (by simp;omega)]
   simp only [Option.bind_some]
   rw [show ((a+20:Nat):Int)+20=((a+20:Nat):Int)+((20:Nat):Int) from rfl,zam _ 20 (by omega)]
  ·obtain ⟨z,k1,k2,k3⟩:=insd hc p r [] a n ha hn (by omega);refine ⟨z,?_,k2,.last (by have:=k2.length_eq;omega) k3⟩
   rw [zg (q:=((a:Int),p++r)) (by
    unfold zI
    have e:decide (((a+20:Nat):Int)≤(n:Int))=false:=by simp;omega
    simp only [e,cond_false])]
   simp only [List.append_nil] at k1
   have hz:=k2.length_eq
   simp only [Option.bind_some,k1]
   rw [eqn_of (by simp;omega)];rfl
theorem round (hc:CmpD cmp lt)(n bs:Nat)(hbs:0<bs)(hB:n+bs<2305843009213693)(dd:List za): ∀ (k:Nat) (p r:List za) (a:Nat),r.length≤k→a=p.length→n=a+r.length→Blk lt bs r→
 ∃ r',((iter (qg (n:Int) cmp ((bs:Int),dd)) ((a:Int),(((a+2*bs:Nat):Int),p++r))).bind fun (q10:Int×(List za))=>(bif (decide ((w64 (q10.1+(bs:Int)))<(n:Int))) then (qz q10.2 q10.1 (w64 (q10.1+(bs:Int))) (n:Int) cmp).bind fun v11=>(eqn v11.length q10.2.length).bind fun _=>some (Sum.inl ((w64 ((bs:Int)*2)),v11)) else some (Sum.inl ((w64 ((bs:Int)*2)),q10.2))))=some ((Sum.inl (((2*bs:Nat):Int),p++r')):(Int×List za)⊕(List za))∧r'.Perm r∧Blk lt (2*bs) r':=by
 have hw2:w64 ((bs:Int)*2)=((2*bs:Nat):Int):=by rw [qv (by omega)];omega
 have hw3:w64 (2*(bs:Int))=((2*bs:Nat):Int):=by rw [qv (by omega)];omega
 intro k
 induction k with
 |zero=>
  intro p r a hk ha hn hb
  obtain rfl:=List.length_eq_zero_iff.1 (Nat.le_zero.1 hk)
  simp only [List.length_nil,Nat.add_zero] at hn
  refine ⟨[],?_,List.Perm.refl _,.last (by simp) Sd_nil⟩
  rw [zg (q:=((a:Int),p++[])) (by
   unfold qg
   have e:decide (((a+2*bs:Nat):Int)≤(n:Int))=false:=by simp;omega
   simp only [e,cond_false])]
  simp only [Option.bind_some]
  rw [zam a bs (by omega)]
  have e:decide (((a+bs:Nat):Int)<(n:Int))=false:=by simp;omega
  rw [e,hw2];rfl
 |succ k ih=>
  intro p r a hk ha hn hb
  by_cases h:2*bs≤r.length
  ·obtain ⟨x,r1,rfl,hx,hxs,hb1⟩:=hb.take (by omega)
   simp only [List.length_append] at h hk hn
   obtain ⟨y,r2,rfl,hy,hys,hb2⟩:=hb1.take (by omega)
   simp only [List.length_append] at h hk hn
   obtain ⟨z,k1,k2,k3⟩:=sym_all hc (2*bs) x y p r2 a (a+bs) (a+2*bs) (by omega) (by omega) (by omega) ha (by omega) (by omega) (by omega) hxs hys
   have hz:=k2.length_eq
   simp only [List.length_append] at hz
   obtain ⟨r3,m1,m2,m3⟩:=ih (p++z) r2 (a+2*bs) (by omega) (by simp;omega) (by omega) hb2;refine ⟨z++r3,?_,?_,.cons (by omega) k3 m3⟩
   ·simp only [List.append_assoc] at m1
    rw [←m1]
    congr 1
    refine zt ?_;unfold qg
    have e:decide (((a+2*bs:Nat):Int)≤(n:Int))=true:=by simp;omega
    simp only [e,cond_true]
    rw [zam a bs (by omega),k1]
    simp only [Option.bind_some]
    rw [eqn_of (by simp;omega)]
    simp only [Option.bind_some]
    rw [hw3,zam _ (2*bs) (by omega)]
   ·have:=k2.append m2
    simpa using this
  ·have hi:iter (qg (n:Int) cmp ((bs:Int),dd)) ((a:Int),(((a+2*bs:Nat):Int),p++r))=some ((a:Int),p++r):=zg (by
    unfold qg
    have e:decide (((a+2*bs:Nat):Int)≤(n:Int))=false:=by simp;omega
    simp only [e,cond_false])
   rw [hi]
   simp only [Option.bind_some]
   rw [zam a bs (by omega)]
   by_cases h2:a+bs<n
   ·have e:decide (((a+bs:Nat):Int)<(n:Int))=true:=by simp;omega
    rw [e]
    obtain ⟨x,y,rfl,hx,hxs,hb1⟩:=hb.take (by omega)
    simp only [List.length_append] at h hk hn
    have hys:=hb1.short (by omega)
    obtain ⟨z,k1,k2,k3⟩:=sym_all hc (x.length+y.length) x y p [] a (a+bs) n (by omega) (by omega) (by omega) ha (by omega) (by omega) (by omega) hxs hys
    simp only [List.append_nil] at k1
    have hz:=k2.length_eq
    simp only [List.length_append] at hz
    refine ⟨z,?_,k2,.last (by omega) k3⟩
    simp only [cond_true,k1,Option.bind_some]
    rw [eqn_of (by simp;omega),hw2];rfl
   ·have e:decide (((a+bs:Nat):Int)<(n:Int))=false:=by simp;omega
    rw [e,hw2]
    exact ⟨r,rfl,List.Perm.refl _,.last (by omega) (hb.short (by omega))⟩
theorem rounds (hc:CmpD cmp lt)(n:Nat)(hB:n<576460752303423): ∀ (k:Nat) (l:List za) (bs:Nat),n≤bs+k→0<bs→bs≤2*n+40→l.length=n→Blk lt bs l→
 ∃ l',iter (qf (n:Int) cmp) ((bs:Int),l)=some l'∧l'.Perm l∧Sd lt l':=by
 intro k
 induction k with
 |zero=>
  intro l bs h1 h2 h3 hl hb
  refine ⟨l,zg ?_,List.Perm.refl _,hb.short (by omega)⟩;unfold qf
  have e:decide ((bs:Int)<(n:Int))=false:=by simp;omega
  rw [e];rfl
 |succ k ih=>
  intro l bs h1 h2 h3 hl hb
  by_cases h:bs<n
  ·obtain ⟨r,k1,k2,k3⟩:=round hc n bs h2 (by omega) l l.length [] l 0 (Nat.le_refl _) rfl (by omega) hb;obtain ⟨l',m1,m2,m3⟩:=ih r (2*bs) (by omega) (by omega) (by omega) (by rw [k2.length_eq];exact hl) k3;refine ⟨l',?_,m2.trans k2,m3⟩
   rw [←m1]
   refine zt ?_;unfold qf
   have e:decide ((bs:Int)<(n:Int))=true:=by simp;omega
   have hw3:w64 (2*(bs:Int))=((2*bs:Nat):Int):=by rw [qv (by omega)];omega
   simp only [e,cond_true,hw3]
   simp only [Nat.zero_add,List.nil_append,Int.ofNat_zero] at k1
   exact k1
  ·refine ⟨l,zg ?_,List.Perm.refl _,hb.short (by omega)⟩;unfold qf
   have e:decide ((bs:Int)<(n:Int))=false:=by simp;omega
   rw [e];rfl
theorem stable_ok (hc:CmpD cmp lt)(l:List za)(hB:l.length<576460752303423): ∃ l',qU l cmp=some l'∧l'.Perm l∧Sd lt l':=by
 obtain ⟨r,k1,k2,k3⟩:=blocks hc l.length l.length [] l 0 (Nat.le_refl _) rfl (by omega) (by omega);obtain ⟨l',m1,m2,m3⟩:=rounds hc l.length hB l.length r 20 (by omega) (by omega) (by omega) k2.length_eq k3;refine ⟨l',?_,m2.trans k2,m3⟩
 have hl:=(m2.trans k2).length_eq
 have e:Za l (l.length:Int) cmp=some l':=by
  unfold Za
  simp only [Nat.zero_add,List.nil_append] at k1
  cases hi:iter (zI (l.length:Int) cmp) (0,20,l) with
  |none=>
   have k1':((iter (zI (l.length:Int) cmp) (0,20,l)).bind fun (q4:Int×(List za))=>(zy q4.2 q4.1 (l.length:Int) cmp).bind fun v5=>(eqn v5.length q4.2.length).bind fun _=>some v5)=some r:=k1
   rw [hi] at k1';cases k1'
  |some q4=>
   have k1':((iter (zI (l.length:Int) cmp) (0,20,l)).bind fun (q4:Int×(List za))=>(zy q4.2 q4.1 (l.length:Int) cmp).bind fun v5=>(eqn v5.length q4.2.length).bind fun _=>some v5)=some r:=k1
   rw [hi] at k1'
   simp only [Option.bind_some] at k1' ⊢
   cases h5:zy q4.2 q4.1 (l.length:Int) cmp with
   |none=>rw [h5] at k1';cases k1'
   |some v5=>
    rw [h5] at k1'
    simp only [Option.bind_some] at k1' ⊢
    cases h6:eqn v5.length q4.2.length with
    |none=>rw [h6] at k1';cases k1'
    |some u=>
     rw [h6] at k1'
     simp only [Option.bind_some] at k1' ⊢
     cases k1'
     have m1':iter (qf (l.length:Int) cmp) (20,r)=some l':=m1
     rw [m1'];rfl
 unfold qU
 rw [e]
 simp only [Option.bind_some]
 rw [eqn_of hl];rfl
theorem slt_irrefl: ∀ x:Str,W.lt x x=false
 |[]=>rfl
 |a::x=>by
  have h: ¬ (a<a):=by simp
  simp [W.lt,h,slt_irrefl x]
theorem slt_asym: ∀ x y:Str,W.lt x y=true→W.lt y x=false
 |[],[],h=>by cases h
 |[],_::_,_=>rfl
 |_::_,[],h=>by cases h
 |a::x,b::y,h=>by
  simp only [W.lt,Bool.or_eq_true,decide_eq_true_eq,Bool.and_eq_true,beq_iff_eq] at h
  simp only [W.lt,Bool.or_eq_false_iff,decide_eq_false_iff_not,Bool.and_eq_false_iff]
  rcases h with h|⟨rfl,h⟩
  ·refine ⟨by simp only [UInt8.lt_iff_toNat_lt] at h ⊢;omega,Or.inl ?_⟩
   simp only [beq_eq_false_iff_ne,ne_eq]
   rintro rfl;simp at h
  ·exact ⟨by simp,Or.inr (slt_asym x y h)⟩
theorem slt_trans: ∀ x y z:Str,W.lt x y=true→W.lt y z=true→W.lt x z=true
 |x,y,[],h,k=>by cases y<;>cases k
 |x,[],_::_,h,k=>by cases x<;>cases h
 |[],_::_,_::_,h,k=>rfl
 |a::x,b::y,c::z,h,k=>by
  simp only [W.lt,Bool.or_eq_true,decide_eq_true_eq,Bool.and_eq_true,beq_iff_eq] at h k ⊢
  rcases h with h|⟨rfl,h⟩<;>rcases k with k|⟨rfl,k⟩
  ·left;simp only [UInt8.lt_iff_toNat_lt] at h k ⊢;omega
  ·exact Or.inl h
  ·exact Or.inl k
  ·exact Or.inr ⟨rfl,slt_trans x y z h k⟩
theorem slt_total: ∀ x y:Str,W.lt x y=false→W.lt y x=false→x=y
 |[],[],_,_=>rfl
 |[],_::_,h,_=>by cases h
 |_::_,[],_,h=>by cases h
 |a::x,b::y,h,k=>by
  simp only [W.lt,Bool.or_eq_false_iff,decide_eq_false_iff_not,Bool.and_eq_false_iff,beq_eq_false_iff_ne,ne_eq] at h k
  have hab:a=b:=by
   have h1:=h.1;have k1:=k.1
   simp only [UInt8.lt_iff_toNat_lt] at h1 k1
   exact UInt8.toNat_inj.1 (by omega)
  subst hab
  have e1:=h.2.resolve_left (by simp)
  have e2:=k.2.resolve_left (by simp)
  rw [slt_total x y e1 e2]
theorem slt_nt (x y z:Str)(h:W.lt x y=false)(k:W.lt y z=false):W.lt x z=false:=by
 cases e:W.lt x z with
 |false=>rfl
 |true=>
  cases e2:W.lt y x with
  |true=>have:=slt_trans y x z e2 e;rw [k] at this;cases this
  |false=>have:=slt_total x y h e2;subst this;rw [k] at e;cases e
def dlt (a b:za):Bool:=bif a.Prefix==b.Prefix then W.lt a.URI b.URI else W.lt a.Prefix b.Prefix
theorem cmpS_spec (x y:Str): ∃ c,ZS x y=some c∧((c= -1∧W.lt x y=true)∨(c=0∧x=y)∨(c=1∧W.lt y x=true)):=by
 unfold ZS Q6
 cases h1:W.lt x y with
 |true=>exact ⟨-1,by simp,Or.inl ⟨rfl,rfl⟩⟩
 |false=>
  by_cases h2:x=y
  ·exact ⟨0,by simp [h2],Or.inr (Or.inl ⟨rfl,h2⟩)⟩
  ·have e2:(x==y)=false:=by simpa using h2
   refine ⟨1,by simp [e2],Or.inr (Or.inr ⟨rfl,?_⟩)⟩
   cases h3:W.lt y x with
   |true=>rfl
   |false=>exact absurd (slt_total x y h1 h3) h2
theorem or2_eq (x y:Int):cmp_Or_int [x,y]=some (bif x != 0 then x else y):=by
 unfold cmp_Or_int
 by_cases hx:x=0
 ·subst hx
  rw [zt (s':=1) (by rfl)]
  by_cases hy:y=0
  ·subst hy
   rw [zt (s':=2) (by rfl),zg (q:= .inr ()) (by rfl)];rfl
  ·have hy':(y != 0)=true:=by simp [hy]
   rw [zg (q:= .inl y) (by show (bif (y != 0) then _ else _)=_;rw [hy'];rfl)];rfl
 ·have hx':(x != 0)=true:=by simp [hx]
  rw [zg (q:= .inl x) (by show (bif (x != 0) then _ else _)=_;rw [hx'];rfl),hx'];rfl
theorem dlt_asym (x y:za)(h:dlt x y=true):dlt y x=false:=by
 unfold dlt at*
 by_cases e:x.Prefix=y.Prefix
 ·rw [e] at h ⊢
  simp only [BEq.rfl,cond_true] at h ⊢
  exact slt_asym _ _ h
 ·have e1:(x.Prefix==y.Prefix)=false:=by simpa using e
  have e2:(y.Prefix==x.Prefix)=false:=by simp only [beq_eq_false_iff_ne,ne_eq];exact fun h=>e h.symm
  rw [e1] at h;rw [e2]
  exact slt_asym _ _ h
theorem dlt_nt (x y z:za)(h:dlt x y=false)(k:dlt y z=false):dlt x z=false:=by
 unfold dlt at*
 by_cases e1:x.Prefix=y.Prefix
 ·by_cases e2:y.Prefix=z.Prefix
  ·rw [e1,e2] at h ⊢
   rw [e2] at k
   simp only [BEq.rfl,cond_true] at h k ⊢
   exact slt_nt _ _ _ h k
  ·have e2':(y.Prefix==z.Prefix)=false:=by simpa using e2
   rw [e2'] at k
   rw [e1,e2'];exact k
 ·have e1':(x.Prefix==y.Prefix)=false:=by simpa using e1
  rw [e1'] at h
  by_cases e2:y.Prefix=z.Prefix
  ·rw [←e2,e1'];exact h
  ·have e2':(y.Prefix==z.Prefix)=false:=by simpa using e2
   rw [e2'] at k
   have e3:=slt_nt _ _ _ h k
   cases e4:x.Prefix==z.Prefix with
   |false=>exact e3
   |true=>
    have e4:x.Prefix=z.Prefix:=by simpa using e4
    rw [e4] at h
    exact absurd (slt_total _ _ k h) e2
theorem cmp_d:CmpD (fun x0 x1=>JB x0 x1) dlt where
 val:=fun a b=>by
  unfold JB;obtain ⟨x,hx,h1⟩:=cmpS_spec a.Prefix b.Prefix;obtain ⟨y,hy,h2⟩:=cmpS_spec a.URI b.URI;refine ⟨bif x != 0 then x else y,by rw [hx,hy];simp only [Option.bind_some,or2_eq],?_⟩;unfold dlt
  rcases h1 with ⟨rfl,h1⟩|⟨rfl,h1⟩|⟨rfl,h1⟩
  ·have e:(a.Prefix==b.Prefix)=false:=by
    simp only [beq_eq_false_iff_ne,ne_eq];intro e;rw [e,slt_irrefl] at h1;cases h1
   rw [e,h1];rfl
  ·rw [h1]
   simp only [BEq.rfl,cond_true]
   rcases h2 with ⟨rfl,h2⟩|⟨rfl,h2⟩|⟨rfl,h2⟩
   ·rw [h2];rfl
   ·rw [h2,slt_irrefl];rfl
   ·rw [slt_asym _ _ h2];rfl
  ·have e:(a.Prefix==b.Prefix)=false:=by
    simp only [beq_eq_false_iff_ne,ne_eq];intro e;rw [e,slt_irrefl] at h1;cases h1
   rw [e,slt_asym _ _ h1];rfl
 asym:=dlt_asym
 nt:=dlt_nt
theorem clone_d (l:List za)(h:l.length<4398046511104):ZI l=some l:=by
 unfold ZI
 rw [Z3 (by simp;omega)];rfl
theorem sorted_ok (l:List za)(hl:l.length<4398046511104): ∃ l',J7 l=some l'∧l'.Perm l∧Sd dlt l':=by
 obtain ⟨l',k1,k2,k3⟩:=stable_ok cmp_d l (by omega);refine ⟨l',?_,k2,k3⟩;unfold J7
 rw [clone_d l hl]
 rw [Option.bind_some,k1,Option.bind_some,eqn_of k2.length_eq];rfl
abbrev ScSt:=List (Str×Bool)×List za
def seenB (m:List (Str×Bool))(p:Str):Bool:=(mget m p).getD false
def scS (st:ScSt)(x:za):ScSt:=(mput st.1 x.Prefix true,bif !seenB st.1 x.Prefix&& !(x.URI==[]) then st.2++[x] else st.2)
theorem scS_len (st:ScSt)(x:za):(scS st x).2.length≤st.2.length+1:=by
 unfold scS
 cases (!seenB st.1 x.Prefix&& !(x.URI==[]))<;>simp
theorem fold_len: ∀ (ds:List za) (st:ScSt),(ds.foldl scS st).2.length≤st.2.length+ds.length
 |[],st=>Nat.le_refl _
 |x::r,st=>by
  have:=fold_len r (scS st x)
  have:=scS_len st x
  rw [List.foldl_cons,List.length_cons];omega
theorem scope_in (x:ze)(hx:x.Decls.length≤64): ∀ (c i:Nat) (st:ScSt),x.Decls.length-i≤c→i≤x.Decls.length→st.2.length+(x.Decls.length-i)≤1000000→iter (Qr x) ((i:Int),st.1,st.2)=some ((x.Decls.drop i).foldl scS st):=by
 intro c
 induction c with
 |zero=>
  intro i st h1 h2 h3
  obtain rfl:i=x.Decls.length:=by omega
  refine zg ?_;unfold Qr
  simp only
  rw [show decide ((x.Decls.length:Int)<(x.Decls.length:Int))=false by simp,List.drop_length]
  rfl
 |succ c ih=>
  intro i st h1 h2 h3
  by_cases hi:i<x.Decls.length
  ·have e:decide ((i:Int)<(x.Decls.length:Int))=true:=by rw [decide_eq_true_eq];omega
   have hw:w64 ((i:Int)+1)=((i+1:Nat):Int):=qb (by omega)
   rw [List.drop_eq_getElem_cons hi,List.foldl_cons,←ih (i+1) (scS st x.Decls[i]) (by omega) (by omega) (by have:=scS_len st x.Decls[i];omega)]
   refine zt ?_;unfold Qr scS
   simp only [e,cond_true,z7 hi,Option.bind_some]
   show (bif !seenB st.1 x.Decls[i].Prefix then _ else _)=_
   cases seenB st.1 x.Decls[i].Prefix with
   |true=>simp only [Bool.not_true,cond_false,Bool.false_and,hw]
   |false=>
    simp only [Bool.not_false,cond_true,Bool.true_and]
    cases (x.Decls[i].URI==[]) with
    |true=>simp only [Bool.not_true,cond_false,hw]
    |false=>
     simp only [Bool.not_false,cond_true]
     rw [Z3 (by simp;omega)]
     simp only [Option.bind_some,hw]
  ·obtain rfl:i=x.Decls.length:=by omega
   refine zg ?_;unfold Qr
   simp only
   rw [show decide ((x.Decls.length:Int)<(x.Decls.length:Int))=false by simp,List.drop_length]
   rfl
def dclAt (l:List ze)(k:Int):List za:=match l[k.toNat]? with
 |some x=>x.Decls
 |none=>[]
section
variable {d:Zb} (hd:DocOk d)
include hd in
theorem scope_out (v:List Int)(hv: ∀ k∈v,∃ j:Nat,k=(j:Int)∧j<d.l.length)(hl:v.length≤4002): ∀ (c i:Nat) (st:ScSt),v.length-i≤c→i≤v.length→st.2.length≤1+i*64→iter (Qs (some d) v) ((i:Int),st.1,st.2)=some ((((v.drop i).flatMap (dclAt d.l)).foldl scS st).2):=by
 intro c
 induction c with
 |zero=>
  intro i st h1 h2 h3
  obtain rfl:i=v.length:=by omega
  refine zg ?_;unfold Qs
  simp only
  rw [show decide ((v.length:Int)<(v.length:Int))=false by simp,List.drop_length]
  rfl
 |succ c ih=>
  intro i st h1 h2 h3
  by_cases hi:i<v.length
  ·obtain ⟨j,hj,hjl⟩:=hv v[i] (List.getElem_mem hi)
   have hx:d.l[j]? =some d.l[j]:=List.getElem?_eq_getElem hjl
   generalize d.l[j]=x at hx
   have hf:=hd.few x (List.mem_of_getElem? hx)
   have hat:at' v (i:Int)=some (j:Int):=by rw [z7 hi,hj]
   have e:decide ((i:Int)<(v.length:Int))=true:=by rw [decide_eq_true_eq];omega
   have hw:w64 ((i:Int)+1)=((i+1:Nat):Int):=qb (by omega)
   have hin:=scope_in x (by omega) x.Decls.length 0 st (by omega) (Nat.zero_le _) (by omega)
   rw [List.drop_zero] at hin
   have hda:dclAt d.l v[i]=x.Decls:=by unfold dclAt;rw [hj,Int.toNat_natCast,hx]
   have hfl:=fold_len x.Decls st
   rw [List.drop_eq_getElem_cons hi,List.flatMap_cons,List.foldl_append,hda,←ih (i+1) (x.Decls.foldl scS st) (by omega) (by omega) (by omega)]
   refine zt ?_;unfold Qs
   simp only [e,cond_true,hat,Option.bind_some]
   rw [Node_in hd hx]
   simp only [Option.bind_some]
   rw [show iter (Qr x) (0,st.1,st.2)=_ from hin]
   simp only [Option.bind_some,hw]
  ·obtain rfl:i=v.length:=by omega
   refine zg ?_;unfold Qs
   simp only
   rw [show decide ((v.length:Int)<(v.length:Int))=false by simp,List.drop_length]
   rfl
def xmlD:za:=za.mk [120,109,108] [104,116,116,112,58,47,47,119,119,119,46,119,51,46,111,114,103,47,88,77,76,47,49,57,57,56,47,110,97,109,101,115,112,97,99,101]
def st0:ScSt:=(mput [] [120,109,108] true,[xmlD])
def declsUp (d:Zb)(n:Nat)(x:ze):List za:=((n:Int)::ups d x).flatMap (dclAt d.l)
include hd in
theorem ups_in {n:Nat}{x:ze}(hx:d.l[n]? =some x): ∀ k∈ups d x,∃ j:Nat,k=(j:Int)∧j<d.l.length:=by
 have key: ∀ (f:Nat) (p:Int) (k:Int),p<(d.l.length:Int)→k∈upN d.l f p→ ∃ j:Nat,k=(j:Int)∧j<d.l.length:=by
  intro f
  induction f with
  |zero=>intro p k _ h;cases h
  |succ f ih=>
   intro p k hp h
   unfold upN at h
   split at h
   ·rename_i h0
    rcases List.mem_cons.1 h with rfl|h
    ·exact ⟨k.toNat,by omega,by omega⟩
    ·have hpl:p.toNat<d.l.length:=by omega
     have hy:d.l[p.toNat]? =some d.l[p.toNat]:=List.getElem?_eq_getElem hpl
     rw [hy] at h
     have:=par_lt hd hy
     exact ih _ k (by omega) h
   ·cases h
 have:=par_lt hd hx
 have hn:=(List.getElem?_eq_some_iff.1 hx).1
 exact fun k hk=>key _ _ k (by omega) hk
include hd in
theorem Scope_elem {n:Nat}{x:ze}(hx:d.l[n]? =some x)(hk:x.Kind=1): ∃ s,QO (some d) (n:Int)=some s∧s.Perm ((declsUp d n x).foldl scS st0).2∧s.length≤256129:=by
 have hn:=(List.getElem?_eq_some_iff.1 hx).1
 have hmany:=hd.many
 have hul:(ups d x).length≤d.l.length+1:=upN_len _ _
 have ho:=scope_out hd ((n:Int)::ups d x) (fun k hk=>by
  rcases List.mem_cons.1 hk with rfl|h
  ·exact ⟨n,rfl,hn⟩
  ·exact ups_in hd hx k h) (by rw [List.length_cons];omega) _ 0 st0 (Nat.le_refl _) (Nat.zero_le _) (by decide)
 rw [List.drop_zero] at ho
 have hlen:((declsUp d n x).foldl scS st0).2.length≤256129:=by
  have h1:=fold_len (declsUp d n x) st0
  have h2:(declsUp d n x).length≤((n:Int)::ups d x).length*64:=by
   have key: ∀ v:List Int,(v.flatMap (dclAt d.l)).length≤v.length*64:=by
    intro v
    induction v with
    |nil=>exact Nat.zero_le _
    |cons k r ih=>
     have hk:(dclAt d.l k).length≤64:=by
      unfold dclAt
      cases hz:d.l[k.toNat]? with
      |none=>exact Nat.zero_le _
      |some z=>have:=hd.few z (List.mem_of_getElem? hz);dsimp only;omega
     rw [List.flatMap_cons,List.length_append,List.length_cons];omega
   exact key _
  rw [List.length_cons] at h2
  have h3:st0.2.length=1:=rfl
  omega
 obtain ⟨s,s1,s2,_⟩:=sorted_ok ((declsUp d n x).foldl scS st0).2 (by omega);refine ⟨s,?_,s2,by rw [s2.length_eq];exact hlen⟩;unfold QO
 rw [Node_in hd hx,Option.bind_some,Up_in hd hx]
 rw [show (x.Kind != 1)=false by simpa using hk]
 simp only [cond_false,Option.bind_some]
 rw [show JM (ups d x) 0 [(n:Int)]=some ((n:Int)::ups d x) by
  unfold JM ins
  rw [show decide ((0:Int)≤0∧(0:Int).toNat≤(ups d x).length∧((ups d x).length+[(n:Int)].length)*8≤140737488355328)=true by
   rw [decide_eq_true_eq];exact ⟨Int.le_refl _,Nat.zero_le _,by simp;omega⟩]
  rfl]
 simp only [Option.bind_some]
 rw [show iter (Qs (some d) ((n:Int)::ups d x)) (0,(mput [] [120,109,108] true,[(za.mk [120,109,108] [104,116,116,112,58,47,47,119,119,119,46,119,51,46,111,114,103,47,88,77,76,47,49,57,57,56,47,110,97,109,101,115,112,97,99,101])]))=_ from ho]
 simp only [Option.bind_some]
 rw [show J7 (List.foldl scS st0 (List.flatMap (dclAt d.l) ((n:Int)::ups d x))).2=_ from s1]
 rfl
include hd in
theorem Scope_other {n:Nat}{x:ze}(hx:d.l[n]? =some x)(hk:x.Kind≠1):QO (some d) (n:Int)=some []:=by
 unfold QO
 rw [Node_in hd hx,Option.bind_some,show (x.Kind != 1)=true by simpa using hk];rfl
end
def smN (n part:Int)(k:Nat):List zV:=(List.range k).map fun (i:Nat)=>zV.mk n part (i:Int)
theorem smN_succ (n part:Int)(k:Nat):smN n part (k+1)=smN n part k++[zV.mk n part (k:Int)]:=by
 unfold smN;rw [List.range_succ,List.map_append];rfl
theorem some_loop (n part:Int)(k:Nat)(hk:k≤1000000): ∀ (c i:Nat),k-i≤c→i≤k→iter (JG n part (k:Int)) ((i:Int),smN n part i)=some (smN n part k):=by
 intro c
 induction c with
 |zero=>
  intro i h1 h2
  obtain rfl:i=k:=by omega
  refine zg ?_;unfold JG
  simp only
  rw [show decide ((i:Int)<(i:Int))=false by simp]
  rfl
 |succ c ih=>
  intro i h1 h2
  by_cases hi:i<k
  ·rw [←ih (i+1) (by omega) (by omega)]
   refine zt ?_;unfold JG
   simp only
   rw [show decide ((i:Int)<(k:Int))=true by rw [decide_eq_true_eq];omega]
   simp only [cond_true]
   rw [Z3 (by unfold smN;simp;omega)]
   simp only [Option.bind_some]
   rw [qb (by omega),smN_succ]
  ·obtain rfl:i=k:=by omega
   refine zg ?_;unfold JG
   simp only
   rw [show decide ((i:Int)<(i:Int))=false by simp]
   rfl
theorem some_eq (n part:Int)(k:Nat)(hk:k≤1000000):point_some n part (k:Int)=some (smN n part k):=by
 unfold point_some
 rw [show ((0:Int),([]:List zV))=(((0:Nat):Int),smN n part 0) from rfl,some_loop n part k hk k 0 (by omega) (by omega)]
 rfl
theorem smN_len (n part:Int)(k:Nat):(smN n part k).length=k:=by unfold smN;simp
theorem smN_N (n part:Int)(k:Nat): ∀ p∈smN n part k,p.N=n:=fun p hp=>by
 obtain ⟨i,_,rfl⟩:=List.mem_map.1 hp;rfl
section
variable {d:Zb} (hd:DocOk d)
noncomputable def scopeK (d:Zb)(n:Nat):Nat:=((QO (some d) (n:Int)).getD []).length
include hd in
theorem scopeK_ok {n:Nat}{x:ze}(hx:d.l[n]? =some x): ∃ s,QO (some d) (n:Int)=some s∧s.length=scopeK d n∧scopeK d n≤256129∧(x.Kind≠1→scopeK d n=0):=by
 by_cases hk:x.Kind=1
 ·obtain ⟨s,h1,h2,h3⟩:=Scope_elem hd hx hk
  have:scopeK d n=s.length:=by unfold scopeK;rw [h1];rfl
  exact ⟨s,h1,this.symm,by omega,fun h=>absurd hk h⟩
 ·have h1:=Scope_other hd hx hk
  have:scopeK d n=0:=by unfold scopeK;rw [h1];rfl
  exact ⟨[],h1,this.symm,by omega,fun _=>this⟩
noncomputable def blkN (d:Zb)(n:Nat)(x:ze):List zV:=zV.mk (n:Int) 0 0::(smN (n:Int) 1 (scopeK d n)++smN (n:Int) 2 x.Attrs.length)
include hd in
theorem Spaces_eq {n:Nat}{x:ze}(hx:d.l[n]? =some x):point_Spaces (some d) (n:Int)=some (smN (n:Int) 1 (scopeK d n)):=by
 obtain ⟨s,h1,h2,h3,_⟩:=scopeK_ok hd hx;unfold point_Spaces
 rw [h1,Option.bind_some,h2,some_eq _ _ _ (by omega)];rfl
include hd in
theorem Marks_eq {n:Nat}{x:ze}(hx:d.l[n]? =some x):point_Marks (some d) (n:Int)=some (smN (n:Int) 2 x.Attrs.length):=by
 have:=hd.few x (List.mem_of_getElem? hx)
 unfold point_Marks
 rw [Node_in hd hx,Option.bind_some,some_eq _ _ _ (by omega)];rfl
def outB (c:Bool)(x:ze):Bool:= !c&&x.Kind==3
noncomputable def treeN (d:Zb)(c:Bool):Nat→Nat→List zV
 |0,_=>[]
 |k+1,m=>match d.l[m]? with
  |some x=>bif outB c x then treeN d c k (m+1) else blkN d m x++treeN d c k (m+1)
  |none=>[]
include hd in
theorem tree_loop {n:Nat}(hn:n<d.l.length)(c:Bool): ∀ (k m:Nat) (out:List zV),endN d n-m=k→m≤endN d n→out.length≤m*1000000→iter (JJ (some d) (n:Int) c) ((m:Int),out)=some (out++treeN d c k m):=by
 obtain ⟨_,a1,a2,_⟩:=end_spec hd hn
 have hmany:=hd.many
 have hEnd:=End_in hd hn
 intro k
 induction k with
 |zero=>
  intro m out h1 h2 h3
  obtain rfl:m=endN d n:=by omega
  refine zg ?_;unfold JJ treeN
  simp only
  rw [show decide ((n:Int)≥0)=true by rw [decide_eq_true_eq];omega]
  simp only [cond_true,hEnd,Option.bind_some]
  rw [show decide (((endN d n:Nat):Int)<((endN d n:Nat):Int))=false by simp,List.append_nil]
  rfl
 |succ k ih=>
  intro m out h1 h2 h3
  have hm:m<d.l.length:=by omega
  have hx:d.l[m]? =some d.l[m]:=List.getElem?_eq_getElem hm
  generalize d.l[m]=x at hx
  have hf:=hd.few x (List.mem_of_getElem? hx)
  obtain ⟨_,_,_,hsc,_⟩:=scopeK_ok hd hx
  have hw:w64 ((m:Int)+1)=((m+1:Nat):Int):=qb (by omega)
  have hg:decide ((n:Int)≥0)=true:=by rw [decide_eq_true_eq];omega
  have he:decide ((m:Int)<((endN d n:Nat):Int))=true:=by rw [decide_eq_true_eq];omega
  unfold treeN
  rw [hx]
  dsimp only
  cases ho:outB c x with
  |true=>
   rw [cond_true,←ih (m+1) out (by omega) (by omega) (Nat.le_trans h3 (Nat.mul_le_mul_right _ (Nat.le_succ m)))]
   refine zt ?_;unfold JJ
   simp only [hg,cond_true,hEnd,Option.bind_some,he]
   unfold outB at ho
   cases c with
   |true=>cases ho
   |false=>
    rw [Bool.not_false,Bool.true_and] at ho
    simp only [Bool.not_false,cond_true,Node_in hd hx,Option.bind_some,ho,hw]
  |false=>
   have hbl:(blkN d m x).length≤256194:=by unfold blkN;rw [List.length_cons,List.length_append,smN_len,smN_len];omega
   rw [cond_false,show out++(blkN d m x++treeN d c k (m+1))=(out++blkN d m x)++treeN d c k (m+1) by rw [List.append_assoc],←ih (m+1) (out++blkN d m x) (by omega) (by omega) (by rw [List.length_append];omega)]
   refine zt ?_;unfold JJ
   simp only [hg,cond_true,hEnd,Option.bind_some,he]
   have hcase:((bif !c then (Zn (some d) (m:Int)).bind fun v4=>some (v4.Kind==3) else some false):Option Bool)=some false:=by
    unfold outB at ho
    cases c with
    |true=>rfl
    |false=>
     rw [Bool.not_false,Bool.true_and] at ho
     rw [Bool.not_false,cond_true,Node_in hd hx,Option.bind_some,ho]
   rw [hcase]
   simp only [Option.bind_some,cond_false]
   rw [Z3 (by simp;omega)]
   simp only [Option.bind_some,Spaces_eq hd hx,Marks_eq hd hx]
   rw [Z3 (by simp [smN_len];omega)]
   simp only [Option.bind_some]
   rw [Z3 (by simp [smN_len];omega)]
   simp only [Option.bind_some,hw]
   unfold blkN
   simp
include hd in
theorem Tree_eq {n:Nat}(hn:n<d.l.length)(c:Bool):JW (some d) (n:Int) c=some (treeN d c (endN d n-n) n):=by
 have:=(end_spec hd hn).2.1
 unfold JW
 rw [tree_loop hd hn c _ n [] rfl (by omega) (by simp)]
 rfl
theorem treeN_N (d:Zb)(c:Bool): ∀ (k m:Nat),∀ p∈treeN d c k m,(m:Int)≤p.N
 |0,_,p,h=>by cases h
 |k+1,m,p,h=>by
  unfold treeN at h
  cases hx:d.l[m]? with
  |none=>rw [hx] at h;cases h
  |some x=>
   rw [hx] at h
   dsimp only at h
   have key:p∈treeN d c k (m+1)→(m:Int)≤p.N:=fun h=>by have:=treeN_N d c k (m+1) p h;omega
   cases ho:outB c x with
   |true=>rw [ho] at h;exact key h
   |false=>
    rw [ho,cond_false] at h
    rcases List.mem_append.1 h with h|h
    ·unfold blkN at h
     rcases List.mem_cons.1 h with rfl|h
     ·exact Int.le_refl _
     ·rcases List.mem_append.1 h with h|h
      ·rw [smN_N _ _ _ p h];exact Int.le_refl _
      ·rw [smN_N _ _ _ p h];exact Int.le_refl _
    ·exact key h
def cmtP (d:Zb)(p:zV):Prop:=p.Part=0∧ ∃ (j:Nat) (x:ze),p.N=(j:Int)∧d.l[j]? =some x∧x.Kind=3
def Fits (d:Zb):List zV→List zV→Prop
 |s,[]=>s=[]
 |[],p::t=>cmtP d p∧Fits d [] t
 |q::s,p::t=>(q=p∧Fits d s t)∨(q≠p∧cmtP d p∧Fits d (q::s) t)
theorem Fits.app (d:Zb){s t:List zV}(h:Fits d s t): ∀ b:List zV,Fits d (b++s) (b++t)
 |[]=>h
 |p::b=>by
  show Fits d (p::(b++s)) (p::(b++t))
  unfold Fits;exact Or.inl ⟨rfl,Fits.app d h b⟩
include hd in
theorem fits_tree: ∀ (k m:Nat),m+k≤d.l.length→Fits d (treeN d false k m) (treeN d true k m)
 |0,m,_=>by unfold treeN Fits;rfl
 |k+1,m,h=>by
  have hm:m<d.l.length:=by omega
  have hx:d.l[m]? =some d.l[m]:=List.getElem?_eq_getElem hm
  generalize d.l[m]=x at hx
  have ih:=fits_tree k (m+1) (by omega)
  have e2:treeN d true (k+1) m=blkN d m x++treeN d true k (m+1):=by
   conv=>lhs;unfold treeN
   rw [hx];rfl
  have e1:treeN d false (k+1) m=bif x.Kind==3 then treeN d false k (m+1) else blkN d m x++treeN d false k (m+1):=by
   conv=>lhs;unfold treeN
   rw [hx];rfl
  rw [e1,e2]
  by_cases hk:x.Kind=3
  ·rw [beq_iff_eq.2 hk,cond_true]
   obtain ⟨_,_,_,_,h0⟩:=scopeK_ok hd hx
   have hs:=h0 (by omega)
   have hm0:m≠0:=fun e=>by
    subst e
    obtain ⟨r,r1,r2,_⟩:=hd.list.root
    rw [hx] at r1;cases r1;omega
   have hb:=(hd.list.node m x (by omega) hm hx).bare (by omega)
   have ha:x.Attrs.length=0:=by
    unfold bareB at hb
    simp only [Bool.and_eq_true,beq_iff_eq] at hb
    omega
   have hbl:blkN d m x=[zV.mk (m:Int) 0 0]:=by unfold blkN;rw [hs,ha];rfl
   have hc:cmtP d (zV.mk (m:Int) 0 0):=⟨rfl,m,x,rfl,hx,hk⟩
   rw [hbl]
   show Fits d (treeN d false k (m+1)) (zV.mk (m:Int) 0 0::treeN d true k (m+1))
   cases hq:treeN d false k (m+1) with
   |nil=>rw [hq] at ih;unfold Fits;exact ⟨hc,ih⟩
   |cons q s=>
    rw [hq] at ih
    have hN:=treeN_N d false k (m+1) q (by rw [hq];exact List.mem_cons_self)
    unfold Fits;refine Or.inr ⟨fun e=> ?_,hc,ih⟩
    rw [e] at hN
    dsimp only at hN;omega
  ·rw [beq_eq_false_iff_ne.2 hk,cond_false]
   exact Fits.app d ih _
end
theorem J5 (c:UInt8)(r:Str)(h:c.toNat<128):runesL (c::r)=(c.toNat:Int)::runesL r:=by
 rw [runesL_step _ (by simp),Go.Lib.decodeL_ascii c r h];rfl
theorem name_call (r:Str):nameB (120::112::111::105::110::116::101::114::40::r)=false:=by
 unfold nameB
 rw [J5 _ _ (by decide),J5 _ _ (by decide),J5 _ _ (by decide),J5 _ _ (by decide),J5 _ _ (by decide),J5 _ _ (by decide),J5 _ _ (by decide),J5 _ _ (by decide),J5 _ _ (by decide)]
 have h40:staC (((40:UInt8).toNat:Nat):Int)=false:=by decide
 simp only [List.all_cons,h40,Bool.false_and,Bool.and_false]
theorem pre_split: ∀ (p s:Str),p.isPrefixOf s=true→ ∃ r,s=p++r
 |[],s,_=>⟨s,rfl⟩
 |a::p,[],h=>by cases h
 |a::p,b::s,h=>by
  have h:(a==b&&p.isPrefixOf s)=true:=h
  rw [Bool.and_eq_true,beq_iff_eq] at h
  obtain ⟨r,rfl⟩:=pre_split p s h.2;exact ⟨r,by rw [h.1];rfl⟩
theorem pre_app: ∀ (p r:Str),p.isPrefixOf (p++r)=true
 |[],r=>by cases r<;>rfl
 |a::p,r=>by
  show (a==a&&p.isPrefixOf (p++r))=true
  rw [beq_self_eq_true,Bool.true_and];exact pre_app p r
theorem cutP_app (p r:Str):cutP p (p++r)=(r,true):=by
 unfold cutP
 rw [pre_app,cond_true,List.drop_left]
theorem cutP_not {p s:Str}(h: ∀ r,s≠p++r):cutP p s=(s,false):=by
 have:p.isPrefixOf s=false:=by
  cases hp:p.isPrefixOf s with
  |false=>rfl
  |true=>obtain ⟨r,e⟩:=pre_split p s hp;exact absurd e (h r)
 unfold cutP
 rw [this];rfl
theorem cutS_app (t r:Str):cutS t (r++t)=(r,true):=by
 unfold cutS
 rw [show (r++t).length-t.length=r.length by rw [List.length_append];omega,List.drop_left,List.take_left,beq_self_eq_true,show decide (t.length≤(r++t).length)=true by rw [decide_eq_true_eq,List.length_append];omega]
 rfl
theorem calL_call (id:Str):calL (xpI++[39]++id++[39,41,41])=(id,true,nameB id):=by
 have h:betwL (xpI++[39]++id++[39,41,41]) (xpI++[39]) [39,41,41]=(id,true):=by
  unfold betwL
  rw [show xpI++[39]++id++[39,41,41]=(xpI++[39])++(id++[39,41,41]) by simp,cutP_app]
  dsimp only
  rw [cutS_app];rfl
 unfold calL
 rw [h];rfl
theorem calL_plain (id:Str)(hn: ∀ r,id≠120::112::111::105::110::116::101::114::40::r):calL (35::id)=(id,false,nameB id):=by
 have k1:cutP (xpI++[39]) (35::id)=(35::id,false):=cutP_not fun r e=>by
  injection e with _ e;exact hn _ e
 have k2:cutP (xpI++[34]) (35::id)=(35::id,false):=cutP_not fun r e=>by
  injection e with _ e;exact hn _ e
 have k3:cutP [35] (35::id)=(id,true):=cutP_app [35] id
 have b1:(betwL (35::id) (xpI++[39]) [39,41,41]).2=false:=by unfold betwL;dsimp only;rw [k1];rfl
 have b2:(betwL (35::id) (xpI++[34]) [34,41,41]).2=false:=by unfold betwL;dsimp only;rw [k2];rfl
 unfold calL
 rw [b1,b2,k3];rfl
open Classical in
theorem eqb_pt (p q:zV):zV.eqb p q=decide (p=q):=by
 obtain ⟨a,b,c⟩:=p;obtain ⟨a',b',c'⟩:=q;unfold zV.eqb zV.ints
 rw [Bool.eq_iff_iff,decide_eq_true_eq,beq_iff_eq]
 simp
section
variable {d:Zb} (hd:DocOk d)
open Classical in
include hd in
theorem com_loop (m0:List (Str×Int))(s t:List zV)(hs:s.length<4611686018427387904)(ht:t.length<4611686018427387904): ∀ (c k i:Nat),t.length-i≤c→i≤t.length→k≤s.length→Fits d (s.drop k) (t.drop i)→iter (zC (some (ZV.mk (some d) m0),0) (s,0) (t,0)) ((k:Int),(i:Int))=some (.inr (s.length:Int)):=by
 have hend: ∀ k i:Nat,i=t.length→k≤s.length→Fits d (s.drop k) (t.drop i)→iter (zC (some (ZV.mk (some d) m0),0) (s,0) (t,0)) ((k:Int),(i:Int))=some (.inr (s.length:Int)):=by
  intro k i hi hk h
  subst hi
  rw [List.drop_length] at h
  unfold Fits at h
  have:s.length-k=0:=by rw [←List.length_drop,h];rfl
  obtain rfl:k=s.length:=by omega
  refine zg ?_;unfold zC
  simp only
  rw [show decide ((t.length:Int)<(t.length:Int))=false by simp]
  rfl
 intro c
 induction c with
 |zero=>
  intro k i h1 h2 h3 h
  exact hend k i (by omega) h3 h
 |succ c ih=>
  intro k i h1 h2 h3 h
  by_cases hi:i<t.length
  ·have e:decide ((i:Int)<(t.length:Int))=true:=by rw [decide_eq_true_eq];omega
   have hw:w64 ((i:Int)+1)=((i+1:Nat):Int):=qb (by omega)
   have cm: ∀ p,t[i]=p→cmtP d p→Fits d (s.drop k) (t.drop (i+1))→(((bif decide ((k:Int)<(s.length:Int)) then (at' s (k:Int)).bind fun v16=>(at' t (i:Int)).bind fun v17=>some (zV.eqb v16 v17) else some false):Option Bool)=some false)→iter (zC (some (ZV.mk (some d) m0),0) (s,0) (t,0)) ((k:Int),(i:Int))=some (.inr (s.length:Int)):=by
    intro p hp hc hF hne
    obtain ⟨c1,j,x,c2,c3,c4⟩:=hc
    rw [←ih k (i+1) (by omega) (by omega) h3 hF]
    refine zt ?_;unfold zC
    simp only [e,cond_true]
    rw [hne]
    simp only [Option.bind_some,cond_false,z7 hi,hp,c1,c2,Node_in hd c3,c4,hw]
    rfl
   rw [List.drop_eq_getElem_cons hi] at h
   by_cases hk:k<s.length
   ·have ek:decide ((k:Int)<(s.length:Int))=true:=by rw [decide_eq_true_eq];omega
    have hwk:w64 ((k:Int)+1)=((k+1:Nat):Int):=qb (by omega)
    have h':=h
    rw [List.drop_eq_getElem_cons hk] at h'
    unfold Fits at h'
    rcases h' with ⟨h4,h5⟩|⟨h4,h5,h6⟩
    ·rw [←ih (k+1) (i+1) (by omega) (by omega) (by omega) h5]
     refine zt ?_;unfold zC
     simp only [e,ek,cond_true,z7 hi,z7 hk,Option.bind_some,eqb_pt,h4,decide_true,hw,hwk]
    ·refine cm t[i] rfl h5 (by rw [List.drop_eq_getElem_cons hk];exact h6) ?_
     simp only [ek,cond_true,z7 hi,z7 hk,Option.bind_some,eqb_pt]
     rw [show decide (s[k]=t[i])=false by rw [decide_eq_false_iff_not];exact h4]
   ·have ek:decide ((k:Int)<(s.length:Int))=false:=by rw [decide_eq_false_iff_not];omega
    have h':=h
    rw [List.drop_of_length_le (by omega)] at h'
    unfold Fits at h';refine cm t[i] rfl h'.1 (by rw [List.drop_of_length_le (by omega)];exact h'.2) ?_
    simp only [ek,cond_false]
  ·exact hend k i (by omega) h3 h
include hd in
theorem treeN_len: ∀ (c:Bool) (k m:Nat),m+k≤d.l.length→(treeN d c k m).length≤k*1000000
 |c,0,m,_=>by unfold treeN;exact Nat.zero_le _
 |c,k+1,m,h=>by
  have hm:m<d.l.length:=by omega
  have hx:d.l[m]? =some d.l[m]:=List.getElem?_eq_getElem hm
  generalize d.l[m]=x at hx
  have ih:=treeN_len c k (m+1) (by omega)
  have hf:=hd.few x (List.mem_of_getElem? hx)
  obtain ⟨_,_,_,hsc,_⟩:=scopeK_ok hd hx
  have hbl:(blkN d m x).length≤256194:=by unfold blkN;rw [List.length_cons,List.length_append,smN_len,smN_len];omega
  unfold treeN
  rw [hx]
  dsimp only
  cases outB c x with
  |true=>rw [cond_true,Nat.succ_mul];exact Nat.le_trans ih (Nat.le_add_right _ _)
  |false=>rw [cond_false,List.length_append,Nat.succ_mul,Nat.add_comm];exact Nat.add_le_add ih (Nat.le_trans hbl (by decide))
theorem Set_call (x:ZV)(u:Str)(hu:u.length≤1048576)(h0:u≠[])(h1:u≠[35,120,112,111,105,110,116,101,114,40,47,41])(id:Str)(c b:Bool)(hc:calL u=(id,c,b)):
 JZ (some x) u=bif b&&(mget x.ids id).isSome then (JW x.Doc ((mget x.ids id).getD 0) c).bind fun v=>some (v,0) else some ([],8):=by
 unfold JZ Jr
 rw [show (u==[])=false by rw [beq_eq_false_iff_ne];exact h0,show (u==[35,120,112,111,105,110,116,101,114,40,47,41])=false by rw [beq_eq_false_iff_ne];exact h1,called_eq u hu,hc]
 unfold Q7
 simp only [Option.isNone_some,cond_false,Option.bind_some]
 cases b with
 |false=>rfl
 |true=>
  cases hg:(mget x.ids id).isSome with
  |false=>rfl
  |true=>rfl
end
theorem resolveComments_plain (b:List UInt8)(id:Str):qX b id=some true:=by
 unfold qX
 rw [awake22]
 simp only [Option.bind_some,Bool.not_true,cond_false]
 by_cases hb:(b.length:Int)>800
 ·rw [show decide ((b.length:Int)>800)=true by rw [decide_eq_true_eq];exact hb];rfl
 ·rw [show decide ((b.length:Int)>800)=false by rw [decide_eq_false_iff_not];exact hb]
  simp only [cond_false]
  by_cases hu:(id.length:Int)>100
  ·rw [show decide ((id.length:Int)>100)=true by rw [decide_eq_true_eq];exact hu];rfl
  ·rw [show decide ((id.length:Int)>100)=false by rw [decide_eq_false_iff_not];exact hu]
   simp only [Option.bind_some,cond_false]
   obtain ⟨v,hv,h⟩:=Parse_some b
   rw [hv]
   simp only [Option.bind_some]
   obtain ⟨v1,v2⟩:=v
   rcases h with ⟨h1,h2⟩|⟨d,h1,h2,hd⟩
   ·dsimp only at h1 h2
    subst h1
    rw [IdOf_none,Option.bind_some]
    rcases h2 with h2|h2<;>subst h2<;>rfl
   ·dsimp only at h1 h2
    subst h1 h2
    rcases IdOf_some hd with e|⟨m,e,hm⟩
    ·rw [e];rfl
    ·rw [e,show ((0:Int) != 0)=false from rfl]
     simp only [Option.bind_some,cond_false]
     rw [show ((0:Int) != 0)=false from rfl]
     simp only [cond_false]
     rw [cat_of (by simp;omega),Option.bind_some,cat_of (by simp;omega)]
     simp only [Option.bind_some]
     rw [cat_of (by simp;omega)]
     simp only [Option.bind_some]
     have hu2:[35,120,112,111,105,110,116,101,114,40,105,100,40,39]++id++[39,41,41]=xpI++[39]++id++[39,41,41]:=rfl
     have hS2:=Set_call (ZV.mk (some d) m) (xpI++[39]++id++[39,41,41]) (by simp [xpI];omega) (by simp [xpI]) (fun e=>by
      have:=congrArg List.length e
      simp [xpI] at this) id true (nameB id) (calL_call id)
     rw [hu2,hS2]
     by_cases hid:id=[120,112,111,105,110,116,101,114,40,47,41]
     ·subst hid
      have hnm:nameB [120,112,111,105,110,116,101,114,40,47,41]=false:=name_call [47,41]
      rw [hnm,Bool.false_and,cond_false]
      have hS1:JZ (some (ZV.mk (some d) m)) ([35]++[120,112,111,105,110,116,101,114,40,47,41])=(JW (some d) 0 true).bind fun v=>some (v,0):=rfl
      have h0:0<d.l.length:=by
       obtain ⟨r,r1,_⟩:=hd.list.root;exact (List.getElem?_eq_some_iff.1 r1).1
      rw [hS1,show JW (some d) 0 true=_ from Tree_eq hd h0 true]
      rfl
     ·have hne:(id==[120,112,111,105,110,116,101,114,40,47,41])=false:=by rw [beq_eq_false_iff_ne];exact hid
      have hu1:([35]++id:Str)≠[35,120,112,111,105,110,116,101,114,40,47,41]:=fun e=>by injection e with _ e;exact hid e
      by_cases hcall: ∃ r,id=120::112::111::105::110::116::101::114::40::r
      ·obtain ⟨r,rfl⟩:=hcall
       rw [name_call r,Bool.false_and,cond_false]
       simp only [Option.bind_some]
       obtain ⟨⟨q1,q2,q3⟩,hq⟩: ∃ q,calL ([35]++(120::112::111::105::110::116::101::114::40::r))=q:=⟨_,rfl⟩
       have hany:=Set_call (ZV.mk (some d) m) ([35]++(120::112::111::105::110::116::101::114::40::r)) (by simp at hu ⊢;omega) (by simp) hu1 q1 q2 q3 hq
       rw [hany]
       dsimp only
       cases hg:(q3&&(mget m q1).isSome) with
       |false=>
        rw [cond_false]
        rfl
       |true=>
        rw [cond_true]
        rw [Bool.and_eq_true] at hg
        have hlong:r≠[]:=fun e=>by
         subst e
         have hp:calL ([35]++[120,112,111,105,110,116,101,114,40])=([120,112,111,105,110,116,101,114,40],false,false):=by decide
         rw [hp] at hq
         injection hq with _ hq;injection hq with _ hq
         rw [←hq] at hg
         exact absurd hg.1 (by decide)
        cases hgv:mget m q1 with
        |none=>rw [hgv] at hg;cases hg.2
        |some z=>
         obtain ⟨j,j1,j2⟩:=hm _ (mem_mget hgv)
         dsimp only at j1
         subst j1
         rw [Option.getD_some,Tree_eq hd j2]
         simp only [Option.bind_some]
         rw [show ((0:Int) != 0)=false from rfl]
         simp only [cond_false,hne]
         have hl9:decide (((120::112::111::105::110::116::101::114::40::r:Str).length:Int)>9)=true:=by
          rw [decide_eq_true_eq]
          have:0<r.length:=List.length_pos_iff.2 hlong
          simp only [List.length_cons];omega
         rw [hl9]
         simp only [cond_true]
         rw [show (9:Int)=((9:Nat):Int) from rfl,QQ (by simp)]
         rfl
      ·have hcall': ∀ r,id≠120::112::111::105::110::116::101::114::40::r:=fun r e=>hcall ⟨r,e⟩
       have hS1:=Set_call (ZV.mk (some d) m) ([35]++id) (by simp;omega) (by simp) hu1 id false (nameB id) (calL_plain id hcall')
       rw [hS1]
       cases hg:(nameB id&&(mget m id).isSome) with
       |false=>
        simp only [cond_false,Option.bind_some]
        rfl
       |true=>
        rw [Bool.and_eq_true] at hg
        cases hgv:mget m id with
        |none=>rw [hgv] at hg;cases hg.2
        |some z=>
         obtain ⟨j,j1,j2⟩:=hm _ (mem_mget hgv)
         dsimp only at j1
         subst j1
         have ha:=(end_spec hd j2).2.2.1
         have ha2:=(end_spec hd j2).2.1
         have l1:=treeN_len hd false (endN d j-j) j (by omega)
         have l2:=treeN_len hd true (endN d j-j) j (by omega)
         have hmany:=hd.many
         have hl:=com_loop hd m (treeN d false (endN d j-j) j) (treeN d true (endN d j-j) j) (by omega) (by omega) _ 0 0 (Nat.le_refl _) (Nat.zero_le _) (Nat.zero_le _) (fits_tree hd (endN d j-j) j (by omega))
         simp only [cond_true,Option.getD_some,Tree_eq hd j2,Option.bind_some]
         rw [show ((0:Int) != 0)=false from rfl]
         simp only [cond_false,hne]
         rw [show iter (zC (some (ZV.mk (some d) m),0) (treeN d false (endN d j-j) j,0) (treeN d true (endN d j-j) j,0)) (0,0)=_ from hl]
         by_cases h9:(id.length:Int)>9
         ·rw [show decide ((id.length:Int)>9)=true by rw [decide_eq_true_eq];exact h9]
          simp only [cond_true]
          rw [show (9:Int)=((9:Nat):Int) from rfl,QQ (by omega)]
          simp only [Option.bind_some]
          cases id.take 9==[120,112,111,105,110,116,101,114,40] with
          |true=>rfl
          |false=>
           simp only [cond_false,Option.bind_some,Sum.elim_inr]
           rw [show ((0:Int)==0)=true from rfl]
           simp
         ·rw [show decide ((id.length:Int)>9)=false by rw [decide_eq_false_iff_not];exact h9]
          simp only [cond_false,Option.bind_some,Sum.elim_inr]
          rw [show ((0:Int)==0)=true from rfl]
          simp
end G
