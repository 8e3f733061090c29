/-
  THE DOCUMENT, plain, fourth part: a list within its limits; the document of a list; a document read. No program, no memory. Conditions: none.
  THE DOCUMENT, plain: what is reckoned of a list, and of bytes, as functions that can be evaluated. No program, no memory. Conditions: none.
  WHAT THE LAWS' OWN TESTS ANSWER, plain (references): each parses one small document; the kernel reckons it. No program, no memory. Conditions: none.
  THE DOCUMENT'S FUNCTIONS, plain: how many nodes, a node, its end, its children, its text: reckoned. No program, no memory. Conditions: none.
  WHO IS CALLED WHAT, plain: the index of a document's identifiers, and what a reference is called. No program, no memory. Conditions: none.
  ResolveOut, plain: what isn't within the document means nothing. No program, no memory. Conditions: none.
-/
import Derived.Test.YtojbjdcflgeibaaGreatDoorPlain1
import Derived.KernelRfl
set_option maxRecDepth 20000
set_option linter.unusedVariables false
set_option linter.unusedSimpArgs false
namespace G
open W
open Go.Lib (decodeL decodeN validD index cut contains replaceK replaceAll)
theorem within_loop (l:List ze)(hlen:l.length≤4000)(hall: ∀ y∈l,okN y)(hp:ParOk l l.length): ∀ (k i:Nat) (dp:List Int),l.length-i≤k→i≤l.length→dp.length=l.length→(∀ v∈dp,0≤v∧v≤(i:Int))→ ∃ v,iter (zF l) ((i:Int),dp)=some v∧(v= .inr ()→ ∀ m x,i≤m→l[m]? =some x→x.Decls.length+x.Attrs.length≤64):=by
  intro k
  induction k with
  |zero=>
    intro i dp h1 h2 h3 h4
    refine ⟨.inr (),zj ?_,fun _ m x hm hx=> ?_⟩
    · unfold zF
      have e:decide ((i:Int)<(l.length:Int))=false:=by rw [decide_eq_false_iff_not];omega
      simp only [e,cond_false]
    · have:=(List.getElem?_eq_some_iff.1 hx).1;omega
  |succ k ih=>
    intro i dp h1 h2 h3 h4
    by_cases hi:i<l.length
    · have e:decide ((i:Int)<(l.length:Int))=true:=by rw [decide_eq_true_eq];omega
      have hid:i<dp.length:=by omega
      have hx:l[i]? =some l[i]:=List.getElem?_eq_getElem hi
      have hat:at' l (i:Int)=some l[i]:=z7 hi
      have hok:=hall l[i] (List.getElem_mem hi)
      generalize l[i]=x at hx hat hok
      have hsz:w64 ((x.Decls.length:Int)+(x.Attrs.length:Int))=((x.Decls.length+x.Attrs.length:Nat):Int):=by
        have:=hok.2.2.2.2.1;have:=hok.2.2.2.2.2.1
        rw [qy (by omega)];omega
      have hw:w64 ((i:Int)+1)=((i+1:Nat):Int):=qf (by omega)
      have adi:at' dp (i:Int)=some dp[i]:=z7 hid
      have bad:zF l ((i:Int),dp)=some (.inr (.inl ()))→ ∃ v,iter (zF l) ((i:Int),dp)=some v∧(v= .inr ()→ ∀ m x,i≤m→l[m]? =some x→x.Decls.length+x.Attrs.length≤64):=fun h=>⟨.inl (),zj h,fun h=>by cases h⟩
      have next: ∀ dp':List Int,dp'.length=l.length→(∀ v∈dp',0≤v∧v≤((i+1:Nat):Int))→x.Decls.length+x.Attrs.length≤64→zF l ((i:Int),dp)=some (.inl (((i+1:Nat):Int),dp'))→ ∃ v,iter (zF l) ((i:Int),dp)=some v∧(v= .inr ()→ ∀ m x,i≤m→l[m]? =some x→x.Decls.length+x.Attrs.length≤64):=fun dp' a b c h=>by
        obtain ⟨v,k1,k2⟩:=ih (i+1) dp' (by omega) (by omega) a b;refine ⟨v,by rw [zv h];exact k1,fun hv m y hm hy=> ?_⟩
        by_cases hmi:m=i
        · subst hmi;rw [hx] at hy;cases hy;exact c
        · exact k2 hv m y (by omega) hy
      by_cases h0:i=0
      · subst h0
        have e0:decide (((0:Nat):Int)>0)=false:=rfl
        by_cases c1:dp[0]>64
        · apply bad;unfold zF
          simp only [e,cond_true,hat,Option.bind_some,e0,cond_false,adi]
          rw [show decide (dp[0]>64)=true by rw [decide_eq_true_eq];exact c1];rfl
        · by_cases c2:x.Decls.length+x.Attrs.length>64
          · apply bad;unfold zF
            simp only [e,cond_true,hat,Option.bind_some,e0,cond_false,adi]
            rw [show decide (dp[0]>64)=false by rw [decide_eq_false_iff_not];exact c1,hsz,show decide (((x.Decls.length+x.Attrs.length:Nat):Int)>64)=true by rw [decide_eq_true_eq];omega];rfl
          · refine next dp h3 (fun v hv=>by have:=h4 v hv;omega) (by omega) ?_;unfold zF
            simp only [e,cond_true,hat,Option.bind_some,e0,cond_false,adi]
            rw [show decide (dp[0]>64)=false by rw [decide_eq_false_iff_not];exact c1,hsz,show decide (((x.Decls.length+x.Attrs.length:Nat):Int)>64)=false by rw [decide_eq_false_iff_not];omega,hw];rfl
      · have e0:decide ((i:Int)>0)=true:=by rw [decide_eq_true_eq];omega
        obtain ⟨p0,p1⟩:=hp i x (by omega) hi hx
        have hpl:x.Parent.toNat<dp.length:=by omega
        have hpn:((x.Parent.toNat:Nat):Int)=x.Parent:=by omega
        have adp:at' dp x.Parent=some dp[x.Parent.toNat]:=by have:=z7 hpl;rwa [hpn] at this
        have hv0:=h4 _ (List.getElem_mem hpl)
        have hwp:w64 (dp[x.Parent.toNat]+1)=dp[x.Parent.toNat]+1:=qy (by omega)
        have hput:put dp (i:Int) (dp[x.Parent.toNat]+1)=some (dp.set i (dp[x.Parent.toNat]+1)):=put_of hid _
        have ads:at' (dp.set i (dp[x.Parent.toNat]+1)) (i:Int)=some (dp[x.Parent.toNat]+1):=by
          have:=z7 (l:=dp.set i (dp[x.Parent.toNat]+1)) (i:=i) (by rw [List.length_set];exact hid)
          rw [this,List.getElem_set_self]
        have st:zF l ((i:Int),dp)=(bif decide (dp[x.Parent.toNat]+1>64) then some (.inr (.inl ())) else (bif decide (((x.Decls.length+x.Attrs.length:Nat):Int)>64) then some (.inr (.inl ())) else some (.inl (((i+1:Nat):Int),dp.set i (dp[x.Parent.toNat]+1))))):=by
          unfold zF
          simp only [e,cond_true,hat,Option.bind_some,e0,adp,adi,hwp,hput,ads,hsz,hw]
        by_cases c1:dp[x.Parent.toNat]+1>64
        · apply bad
          rw [st,show decide (dp[x.Parent.toNat]+1>64)=true by rw [decide_eq_true_eq];exact c1];rfl
        · rw [show decide (dp[x.Parent.toNat]+1>64)=false by rw [decide_eq_false_iff_not];exact c1] at st
          by_cases c2:x.Decls.length+x.Attrs.length>64
          · apply bad
            rw [st,show decide (((x.Decls.length+x.Attrs.length:Nat):Int)>64)=true by rw [decide_eq_true_eq];omega];rfl
          · rw [show decide (((x.Decls.length+x.Attrs.length:Nat):Int)>64)=false by rw [decide_eq_false_iff_not];omega] at st
            refine next _ (by rw [List.length_set];exact h3) (fun v hv=> ?_) (by omega) st
            rcases List.mem_or_eq_of_mem_set hv with h|h
            · have:=h4 v h;omega
            · omega
    · refine ⟨.inr (),zj ?_,fun _ m x hm hx=> ?_⟩
      · unfold zF
        have e:decide ((i:Int)<(l.length:Int))=false:=by rw [decide_eq_false_iff_not];omega
        simp only [e,cond_false]
      · have:=(List.getElem?_eq_some_iff.1 hx).1;omega
theorem within_some (l:List ze)(hall: ∀ y∈l,okN y)(hp:ParOk l l.length): ∃ v,zad l=some v∧(v=true→l.length≤4000∧ ∀ x∈l,x.Decls.length+x.Attrs.length≤64):=by
  unfold zad
  by_cases h:l.length>4000
  · rw [show decide ((l.length:Int)>4000)=true by rw [decide_eq_true_eq];omega]
    exact ⟨false,rfl,fun h=>by cases h⟩
  · rw [show decide ((l.length:Int)>4000)=false by rw [decide_eq_false_iff_not];omega]
    obtain ⟨dp,hdp,hl,h0⟩: ∃ dp:List Int,mk 8 (l.length:Int) 0=some dp∧dp.length=l.length∧ ∀ v∈dp,v=0:=⟨_,mk_of 0 (by omega),by rw [List.length_replicate];omega,fun v hv=>(List.mem_replicate.1 hv).2⟩;obtain ⟨v,k1,k2⟩:=within_loop l (by omega) hall hp l.length 0 dp (by omega) (by omega) hl (fun v hv=>by rw [h0 v hv];decide)
    rw [hdp]
    simp only [cond_false,Option.bind_some]
    rw [show iter (zF l) (0,dp)=_ from k1]
    cases v with
    |inl u=>exact ⟨false,rfl,fun h=>by cases h⟩
    |inr u=>exact ⟨true,rfl,fun _=>⟨by omega,fun x hx=>by
        obtain ⟨m,hm⟩:=List.getElem?_of_mem hx
        exact k2 rfl m x (Nat.zero_le _) hm⟩⟩
theorem cloneD_eq (x:ze)(h:okN x):doc_clone x=some (x.Kind,x.Parent,x.Prefix,x.Local,x.URI,x.Text,x.Decls,x.Attrs):=by
  have h1:=h.2.2.2.2.1;have h2:=h.2.2.2.2.2.1
  unfold doc_clone Qt JB
  rw [Jc (by simp;omega),Jc (by simp;omega)];rfl
theorem copy_loop (l:List ze)(hall: ∀ y∈l,okN y)(hlen:l.length≤1073741824): ∀ (k i:Nat),l.length-i≤k→i≤l.length→iter (zam l) ((i:Int),l.take i)=some l:=by
  intro k
  induction k with
  |zero=>
    intro i h1 h2
    refine zj ?_;unfold zam
    have e:decide ((i:Int)<(l.length:Int))=false:=by rw [decide_eq_false_iff_not];omega
    rw [List.take_of_length_le (by omega)]
    simp only [e,cond_false]
  |succ k ih=>
    intro i h1 h2
    by_cases hi:i<l.length
    · have e:decide ((i:Int)<(l.length:Int))=true:=by rw [decide_eq_true_eq];omega
      have k1:=ih (i+1) (by omega) (by omega)
      rw [List.take_succ_eq_append_getElem hi] at k1
      rw [←k1]
      refine zv ?_;unfold zam
      simp only [e,cond_true]
      rw [z7 hi]
      simp only [Option.bind_some]
      rw [cloneD_eq _ (hall _ (List.getElem_mem hi))]
      simp only [Option.bind_some]
      rw [Jc (by simp;omega)]
      simp only [Option.bind_some]
      rw [qf (by omega)]
    · refine zj ?_;unfold zam
      have e:decide ((i:Int)<(l.length:Int))=false:=by rw [decide_eq_false_iff_not];omega
      rw [List.take_of_length_le (by omega)]
      simp only [e,cond_false]
theorem end_loop (l:List ze){t:Int}(hL:ListOk l t)(hlen:l.length≤1073741824): ∀ (k:Nat) (en:List Int),k≤l.length→EInv l k en→ ∃ en',iter (zal l) ((k:Int)-1,en)=some en'∧EInv l 0 en':=by
  intro k
  induction k with
  |zero=>
    intro en h1 h2
    exact ⟨en,zj rfl,h2⟩
  |succ k ih=>
    intro en h1 h2
    rw [show (((k+1:Nat):Int)-1)=(k:Int) by omega]
    have hk:k<l.length:=by omega
    have hke:k<en.length:=by have:=h2.len;omega
    have e:decide ((k:Int)≥0)=true:=by simp
    have hx:l[k]? =some l[k]:=List.getElem?_eq_getElem hk
    have hat:at' l (k:Int)=some l[k]:=z7 hk
    generalize l[k]=x at hx hat
    have hst:=h2.step hL hk hx
    have ake:at' en (k:Int)=some (gz en k):=by rw [z7 hke,gz_get hke]
    have pke: ∀ v,put en (k:Int) v=some (en.set k v):=fun v=>put_of hke v
    have hwk:w64 ((k:Int)-1)=(k:Int)-1:=qy (by omega)
    have hwk1:w64 ((k:Int)+1)=(k:Int)+1:=qy (by omega)
    by_cases hpar:x.Parent≥0
    · have hkp:0<k:=by
        rcases Nat.eq_zero_or_pos k with h|h
        · subst h
          obtain ⟨r',r1,_,r2,_⟩:=hL.root
          rw [r1] at hx;cases hx;omega
        · exact h
      obtain ⟨p0,p1⟩:=(hL.node k x hkp hk hx).par
      have hpn:((x.Parent.toNat:Nat):Int)=x.Parent:=by omega
      have hs:=hst.1 hpar
      have hEl:(en.set k (mx (gz en k) ((k:Int)+1))).length=l.length:=by rw [List.length_set];exact h2.len
      obtain ⟨en',k1,k2⟩:=ih _ (by omega) hs;refine ⟨en',?_,k2⟩
      rw [←k1]
      refine zv ?_;unfold zal
      simp only [e,cond_true,ake,Option.bind_some,pke,hat,hwk1]
      rw [show decide (x.Parent≥0)=true by rw [decide_eq_true_eq];exact hpar]
      generalize en.set k (mx (gz en k) ((k:Int)+1))=E at hEl ⊢
      have hpl:x.Parent.toNat<E.length:=by omega
      have hkl:k<E.length:=by omega
      have a1:at' E x.Parent=some (gz E x.Parent.toNat):=by have:=z7 hpl;rw [hpn] at this;rw [this,gz_get hpl]
      have a2:at' E (k:Int)=some (gz E k):=by rw [z7 hkl,gz_get hkl]
      have p1': ∀ v,put E x.Parent v=some (E.set x.Parent.toNat v):=fun v=>by have:=put_of hpl v;rwa [hpn] at this
      simp only [cond_true,a1,a2,p1',Option.bind_some,hwk]
    · obtain ⟨en',k1,k2⟩:=ih _ (by omega) (hst.2 hpar);refine ⟨en',?_,k2⟩
      rw [←k1]
      refine zv ?_;unfold zal
      simp only [e,cond_true,ake,Option.bind_some,pke,hat,hwk1]
      rw [show decide (x.Parent≥0)=false by rw [decide_eq_false_iff_not];exact hpar]
      simp only [cond_false,hwk]
structure DocOk (d:Zy):Prop where
  list:ListOk d.l d.top
  many:d.l.length≤4000
  few: ∀ x∈d.l,x.Decls.length+x.Attrs.length≤64
  size: ∀ x∈d.l,okN x
  ends:EndOk d.l d.end_
theorem Of_some (l:List ze)(hall: ∀ y∈l,okN y)(hlen:l.length≤1073741824):doc_Of l=some (none,2)∨doc_Of l=some (none,3)∨ ∃ d,doc_Of l=some (some d,0)∧d.l=l∧DocOk d:=by
  obtain ⟨v,c1,c2⟩:=check_some l hall hlen;unfold doc_Of
  rw [c1]
  simp only [Option.bind_some]
  cases h:v.2 with
  |false=>exact Or.inl rfl
  |true=>
    have hL:=c2 h
    obtain ⟨r,h0,_,hr,_⟩:=hL.root
    have hp:ParOk l l.length:=fun m x a b c=>(hL.node m x a b c).par
    obtain ⟨w,w1,w2⟩:=within_some l hall hp
    simp only [Bool.not_true,cond_false,w1,Option.bind_some]
    cases hw:w with
    |false=>exact Or.inr (Or.inl rfl)
    |true=>
      obtain ⟨m1,m2⟩:=w2 hw
      right;right
      obtain ⟨en,hen,hel,he0⟩: ∃ en:List Int,mk 8 (l.length:Int) 0=some en∧en.length=l.length∧ ∀ j,gz en j=0:=⟨_,mk_of 0 (by omega),by rw [List.length_replicate];omega,fun j=>by unfold gz;rw [List.getElem?_replicate];split<;>rfl⟩
      have hc:=copy_loop l hall hlen l.length 0 (by omega) (by omega)
      rw [List.take_zero] at hc
      have hI:EInv l l.length en:=⟨hel,fun j _=>Or.inl (he0 j),fun j a b=>by omega,fun c x a b hc=>by have:=(List.getElem?_eq_some_iff.1 hc).1;omega⟩
      obtain ⟨en',e1,e2⟩:=end_loop l hL hlen l.length en (Nat.le_refl _) hI
      have hl1:1≤l.length:=by have:=(List.getElem?_eq_some_iff.1 h0).1;omega
      refine ⟨Zy.mk l en' v.1,?_,rfl,⟨hL,m1,m2,hall,e2.done hL⟩⟩
      simp only [Bool.not_true,cond_false]
      rw [hen,Option.bind_some,show iter (zam l) (0,[])=some l from hc,Option.bind_some,qy (by omega),e1,Option.bind_some]
theorem replK_text (old new:Str)(hold:old≠[])(ho: ∀ b∈old,b.toNat<128)(hn:textB new=true): ∀ (k:Nat) (s:Str),textB s=true→textB (replaceK old new k s)=true:=by
  intro k
  induction k with
  |zero=>intro s h;exact h
  |succ k ih=>
    intro s h
    unfold replaceK
    split
    · exact h
    · rename_i hm
      have hge:=Go.Lib.index_ge s old
      have h0:0≤index s old:=by
        have:index s old≠ -1:=by simpa using hm
        omega
      have hc:(cut s old).2.2=true:=by unfold Go.Lib.cut;rw [if_pos h0]
      obtain ⟨t1,t2⟩:=cut_text (q:=old) ho hold h
      have t2:=t2 hc
      have e1:(cut s old).1=s.take (index s old).toNat:=by unfold Go.Lib.cut;rw [if_pos h0]
      have e2:(cut s old).2.1=s.drop ((index s old).toNat+old.length):=by unfold Go.Lib.cut;rw [if_pos h0]
      rw [e1] at t1
      rw [e2] at t2
      have:=ih _ t2
      rw [List.append_assoc,textB_app _ _ _ (Nat.le_refl _) t1,textB_app _ _ _ (Nat.le_refl _) hn]
      exact this
theorem lines_text {s:Str}(h:textB s=true):textB (lines s)=true:=by
  have one: ∀ (old new s:Str),old≠[]→(∀ b∈old,b.toNat<128)→textB new=true→textB s=true→textB (replaceAll s old new)=true:=fun old new s a b c d=>by
    unfold replaceAll Go.Lib.replace
    split
    · exact d
    · exact replK_text old new a b c _ s d
  have t10:textB [10]=true:=by rw [textB_cons 10 [] (by decide)];rfl
  exact one [13] [10] _ (by simp) (by decide) t10 (one [13,10] [10] s (by simp) (by decide) t10 h)
theorem Parse_some (b:Str): ∃ v,Q3 b=some v∧((v.1=none∧(v.2=2∨v.2=3))∨(∃ d,v.1=some d∧v.2=0∧DocOk d)):=by
  unfold Q3
  by_cases hb:b.length>65536
  · rw [show decide ((b.length:Int)>65536)=true by rw [decide_eq_true_eq];omega]
    exact ⟨(none,3),rfl,Or.inl ⟨rfl,Or.inr rfl⟩⟩
  · rw [show decide ((b.length:Int)>65536)=false by rw [decide_eq_false_iff_not];omega,Text_eq b (by omega)]
    simp only [cond_false,Option.bind_some]
    cases ht:textB b with
    |false=>exact ⟨(none,2),rfl,Or.inl ⟨rfl,Or.inl rfl⟩⟩
    |true=>
      have hl:=lines_len b
      rw [Lines_eq b (by omega)]
      simp only [Bool.not_true,cond_false,Option.bind_some]
      obtain ⟨v3,d1,d2,d3⟩:=declaration_eq true false [(ze.mk 0 (-1) [] [] [] [] [] [])] [] [] (lines b) (by omega) (lines_text ht)
      rw [d1]
      simp only [Option.bind_some]
      cases h3:v3.1 with
      |false=>exact ⟨(none,2),rfl,Or.inl ⟨rfl,Or.inl rfl⟩⟩
      |true=>
        obtain ⟨l3,t3⟩:=d3 h3
        have hI:Inv 65536 v3.2 [(ze.mk 0 (-1) [] [] [] [] [] [])] [] []:=⟨t3,by simp;omega,by simp,by simp,(fun o ho=>by cases ho),(fun y hy=>by
          obtain rfl:=List.mem_singleton.1 hy
          exact ⟨Nat.zero_le _,Nat.zero_le _,Nat.zero_le _,Nat.zero_le _,Nat.zero_le _,Nat.zero_le _,by simp,by simp⟩),by simp;omega⟩
        obtain ⟨r1,r2⟩:=run_loop (N:=65536) (by omega) (v3.2.length+1) v3.2 true [(ze.mk 0 (-1) [] [] [] [] [] [])] [] [] (by omega) hI
        simp only [Bool.not_true,cond_false]
        rw [r1]
        cases hq:runL (v3.2.length+1) v3.2 true [(ze.mk 0 (-1) [] [] [] [] [] [])] [] [] with
        |none=>exact ⟨(none,2),rfl,Or.inl ⟨rfl,Or.inl rfl⟩⟩
        |some q=>
          obtain ⟨nb',l',p',x',rfl,hI'⟩:=r2 q hq
          simp only [Option.bind_some,Sum.elim_inr]
          by_cases hp:p'=[]
          · subst hp
            simp only [List.length_nil,show decide ((((0:Nat):Int))>0)=false from rfl,cond_false]
            have hl':=hI'.hl
            rcases Of_some l' hI'.hn (by simp at hl';omega) with h|h|⟨d,h,h',hd⟩
            · rw [h];exact ⟨(none,2),rfl,Or.inl ⟨rfl,Or.inl rfl⟩⟩
            · rw [h];exact ⟨(none,3),rfl,Or.inl ⟨rfl,Or.inr rfl⟩⟩
            · rw [h];exact ⟨(some d,0),rfl,Or.inr ⟨d,rfl,rfl,hd⟩⟩
          · have:0<p'.length:=List.length_pos_iff.2 hp
            rw [show decide ((p'.length:Int)>0)=true by rw [decide_eq_true_eq];omega]
            exact ⟨(none,2),rfl,Or.inl ⟨rfl,Or.inl rfl⟩⟩
end G
set_option maxRecDepth 20000
set_option linter.unusedVariables false
set_option linter.unusedSimpArgs false
namespace G
open W
open Go.Lib (decodeL decodeN validD index cut contains replaceK replaceAll)
def targetB:Str→Bool
  |[a,b,c]=>(a.toNat==120||a.toNat==88)&&((b.toNat==109||b.toNat==77)&&(c.toNat==108||c.toNat==76))
  |_=>false
theorem i_n (c:UInt8)(n:Nat):((c.toNat:Int)==(n:Int))=(c.toNat==n):=by
  rw [Bool.eq_iff_iff];simp only [beq_iff_eq];omega
theorem target_eq (s:Str):zaa s=some (targetB s):=by
  unfold zaa
  by_cases h:s.length=3
  · obtain ⟨a,b,c,rfl⟩: ∃ a b c,s=[a,b,c]:=by
      match s,h with
      |[a,b,c],_=>exact ⟨a,b,c,rfl⟩
    have a0:at' [a,b,c] 0=some a:=rfl
    have a1:at' [a,b,c] 1=some b:=rfl
    have a2:at' [a,b,c] 2=some c:=rfl
    have e1:((a.toNat:Int)==120)=(a.toNat==120):=i_n a 120
    have e2:((a.toNat:Int)==88)=(a.toNat==88):=i_n a 88
    have e3:((b.toNat:Int)==109)=(b.toNat==109):=i_n b 109
    have e4:((b.toNat:Int)==77)=(b.toNat==77):=i_n b 77
    have e5:((c.toNat:Int)==108)=(c.toNat==108):=i_n c 108
    have e6:((c.toNat:Int)==76)=(c.toNat==76):=i_n c 76
    rw [show ((([a,b,c]:Str).length:Int)==3)=true from rfl]
    simp only [cond_true,a0,a1,a2,Option.bind_some,e1,e2,e3,e4,e5,e6,targetB]
    cases a.toNat==120<;>cases a.toNat==88<;>cases b.toNat==109<;>cases b.toNat==77<;>cases c.toNat==108<;>rfl
  · rw [show ((s.length:Int)==3)=false by rw [beq_eq_false_iff_ne];omega]
    have:targetB s=false:=by
      unfold targetB
      split
      · exact absurd rfl h
      · rfl
    rw [this];rfl
def kindAt (l:List ze)(n:Int):Int:=match l[n.toNat]? with
  |some z=>z.Kind
  |none=>0
def blank1:Str→Bool
  |[]=>false
  |c::_=>isB c
def formedB (l:List ze)(n:Nat)(last:Int)(x:ze):Bool:=
  if x.Kind=1 then x.Text==[]&&(declaredB x.Decls&&namedB l n x)
  else bareB x&&(if x.Kind=2 then x.Local==[]&&(!(x.Text==[])&&(textB x.Text&&(decide (last<0)||kindAt l last != 2)))
    else if x.Kind=3 then x.Local==[]&&(textB x.Text&&(!contains x.Text [45,45]&& !(decide ((1:Nat)≤x.Text.length)&&(x.Text.drop (x.Text.length-1)==[45]))))
    else if x.Kind=4 then nameB x.Local&&(!targetB x.Local&&(textB x.Text&&(!contains x.Text [63,62]&& !blank1 x.Text)))
    else false)
theorem formed_eq (l:List ze)(n:Nat)(x:ze)(last:Int)(hn:l[n]? =some x)(hall: ∀ y∈l,okN y)(hp:ParOk l (n+1))(hla:last<(l.length:Int)):zac l (n:Int) last=some (formedB l n last x):=by
  have hx:=hall x (List.mem_of_getElem? hn)
  unfold zac formedB
  rw [J2,hn]
  simp only [Option.bind_some]
  by_cases k1:x.Kind=1
  · rw [beq_iff_eq.2 k1,if_pos k1]
    simp only [cond_true]
    rw [declared_eq _ hx.2.2.2.2.1 hx.2.2.2.2.2.2.1,dnamed_eq l n x hn hall hp]
    simp only [Option.bind_some]
    cases x.Text==[]<;>cases declaredB x.Decls<;>rfl
  · rw [beq_eq_false_iff_ne.2 k1,if_neg k1]
    simp only [cond_false,bare_eq,Option.bind_some]
    rw [dtext_eq _ hx.2.2.2.1,Q6 _ _ (by have:=hx.2.2.2.1;omega),Q6 _ _ (by have:=hx.2.2.2.1;omega),HasSuffix_eq _ _ hx.2.2.2.1,Is_eq x.Local (by have:=hx.2.1;omega),target_eq]
    simp only [Option.bind_some]
    have hbl:((bif (!(x.Text==[])) then (at' x.Text 0).bind fun v11=>(Qg v11).bind fun v12=>some v12 else some false):Option Bool)=some (blank1 x.Text):=by
      cases x.Text with
      |nil=>rfl
      |cons c r=>
        have a0:at' (c::r) 0=some c:=rfl
        rw [show (!((c::r:Str)==[]))=true from rfl]
        simp only [cond_true,a0,Option.bind_some,Blank_eq];rfl
    rw [hbl]
    have hl:((bif decide (last<0) then some true else (at' l last).bind fun v6=>some (v6.Kind != 2)):Option Bool)=some (decide (last<0)||kindAt l last != 2):=by
      by_cases h0:last<0
      · rw [show decide (last<0)=true by rw [decide_eq_true_eq];exact h0];rfl
      · rw [show decide (last<0)=false by rw [decide_eq_false_iff_not];exact h0]
        obtain ⟨m,rfl⟩: ∃ m:Nat,last=(m:Int):=⟨last.toNat,by omega⟩
        have hm:m<l.length:=by omega
        simp only [cond_false]
        rw [z7 hm]
        unfold kindAt
        rw [Int.toNat_natCast,List.getElem?_eq_getElem hm];rfl
    rw [hl]
    by_cases k2:x.Kind=2
    · rw [beq_iff_eq.2 k2,if_pos k2]
      cases bareB x<;>cases x.Local==[]<;>cases x.Text==[]<;>cases textB x.Text<;>rfl
    · rw [beq_eq_false_iff_ne.2 k2,if_neg k2]
      by_cases k3:x.Kind=3
      · rw [beq_iff_eq.2 k3,if_pos k3]
        cases bareB x<;>cases x.Local==[]<;>cases textB x.Text<;>cases contains x.Text [45,45]<;>rfl
      · rw [beq_eq_false_iff_ne.2 k3,if_neg k3]
        by_cases k4:x.Kind=4
        · rw [beq_iff_eq.2 k4,if_pos k4]
          cases bareB x<;>cases nameB x.Local<;>cases targetB x.Local<;>cases textB x.Text<;>cases contains x.Text [63,62]<;>rfl
        · rw [beq_eq_false_iff_ne.2 k4,if_neg k4]
          cases bareB x<;>rfl
def standsF (l:List ze)(px:Int):Nat→Int→Bool
  |0,_=>false
  |k+1,y=>if y<0 then false else match l[y.toNat]? with
    |none=>false
    |some z=>if y=px then z.Kind==0||z.Kind==1 else standsF l px k z.Parent
theorem standsF_loop (l:List ze)(n:Nat)(x r:ze)(hx:l[n]? =some x)(h0:l[0]? =some r)(hr:r.Parent= -1)(hp:ParOk l n): ∀ (k y:Nat),y+1<k→y<n→((iter (ZB l (n:Int)) (y:Int)).bind (Sum.elim (fun (q6:Bool)=>some q6) (fun (q7:Unit)=>some false)))=some (standsF l x.Parent k (y:Int)):=by
  have hn:n<l.length:=(List.getElem?_eq_some_iff.1 hx).1
  have hat:at' l (n:Int)=some x:=by rw [J2,hx]
  intro k
  induction k with
  |zero=>intro y h;omega
  |succ k ih=>
    intro y h hy
    have hyl:y<l.length:=by omega
    have e:decide ((y:Int)≥0)=true:=by simp
    have hay:at' l (y:Int)=some l[y]:=z7 hyl
    unfold standsF
    rw [if_neg (by omega),Int.toNat_natCast,List.getElem?_eq_getElem hyl]
    dsimp only
    by_cases hq:(y:Int)=x.Parent
    · rw [if_pos hq,zj (q:= .inl (l[y].Kind==0||l[y].Kind==1)) (by
        unfold ZB
        simp only [e,cond_true,hat,Option.bind_some]
        rw [beq_iff_eq.2 hq]
        simp only [cond_true,hay,Option.bind_some]
        cases l[y].Kind==0<;>rfl)];rfl
    · rw [if_neg hq,zv (s':=l[y].Parent) (by
        unfold ZB
        simp only [e,cond_true,hat,Option.bind_some]
        rw [beq_eq_false_iff_ne.2 hq]
        simp only [cond_false,hay,Option.bind_some])]
      by_cases y0:y=0
      · subst y0
        have:l[0]=r:=by rw [List.getElem?_eq_getElem hyl] at h0;exact Option.some.inj h0
        rw [this,hr,zj (q:= .inr ()) rfl]
        cases k with
        |zero=>omega
        |succ k=>rfl
      · obtain ⟨p0,p1⟩:=hp y l[y] (by omega) hy (List.getElem?_eq_getElem hyl)
        have hpn:((l[y].Parent.toNat:Nat):Int)=l[y].Parent:=by omega
        have:=ih l[y].Parent.toNat (by omega) (by omega)
        rw [hpn] at this
        exact this
theorem stands_eq2 (l:List ze)(n:Nat)(x r:ze)(hx:l[n]? =some x)(h0:l[0]? =some r)(hr:r.Parent= -1)(hp:ParOk l n)(h1:1≤n)(hn:n<4611686018427387904):J8 l (n:Int)=some (standsF l x.Parent (n+1) ((n-1:Nat):Int)):=by
  unfold J8
  rw [show w64 ((n:Int)-1)=((n-1:Nat):Int) by rw [qy (by omega)];omega]
  exact standsF_loop l n x r hx h0 hr hp (n+1) (n-1) (by omega) (by omega)
def chkF (l:List ze):Nat→Nat→Int→List Int→Option Int
  |0,_,_,_=>none
  |k+1,n,t,last=>match l[n]? with
    |none=>some t
    |some x=>if standsF l x.Parent (n+1) ((n-1:Nat):Int)&&(formedB l n (gz last x.Parent.toNat) x&&(!(x.Parent==0)|| !(x.Kind==2))) then
        (if x.Parent=0∧x.Kind=1 then (if t>0 then none else chkF l k (n+1) (n:Int) (last.set x.Parent.toNat (n:Int))) else chkF l k (n+1) t (last.set x.Parent.toNat (n:Int)))
      else none
def ansC:Option Int→Unit⊕Int
  |none=> .inl ()
  |some q=> .inr q
theorem chk_loop (l:List ze)(r:ze)(h0:l[0]? =some r)(hr:r.Parent= -1)(hall: ∀ y∈l,okN y)(hlen:l.length<4611686018427387904): ∀ (k n:Nat) (t:Int) (last:List Int),l.length-n<k→1≤n→n≤l.length→ParOk l n→last.length=l.length→(∀ v∈last,v<(n:Int))→
    iter (zB l) (t,((n:Int),last))=some (ansC (chkF l k n t last)):=by
  intro k
  induction k with
  |zero=>intro n t last h1;omega
  |succ k ih=>
    intro n t last h1 h2 h3 hp h5 h6
    unfold chkF
    by_cases hn:n<l.length
    · have e:decide ((n:Int)<(l.length:Int))=true:=by rw [decide_eq_true_eq];omega
      have hx:l[n]? =some l[n]:=List.getElem?_eq_getElem hn
      rw [hx]
      dsimp only
      generalize l[n]=x at hx
      have hat:at' l (n:Int)=some x:=by rw [J2,hx]
      have s1:=stands_eq2 l n x r hx h0 hr hp h2 (by omega)
      obtain ⟨v,s2,s3⟩:=stands_some l n x r hx h0 hr hp h2 (by omega)
      have hv:v=standsF l x.Parent (n+1) ((n-1:Nat):Int):=by rw [s1] at s2;exact (Option.some.inj s2).symm
      rw [←hv] at s1 ⊢
      cases hvc:v with
      |false=>
        rw [hvc] at s1
        simp only [Bool.false_and]
        refine zj ?_;unfold zB
        simp only [e,cond_true,s1,Option.bind_some,Bool.not_false];rfl
      |true=>
        rw [hvc] at s1
        obtain ⟨p0,p1,p2,p3⟩:=s3 hvc
        have hpn:((x.Parent.toNat:Nat):Int)=x.Parent:=by omega
        have hpl:x.Parent.toNat<last.length:=by omega
        have hla:at' last x.Parent=some (gz last x.Parent.toNat):=by have:=z7 hpl;rw [hpn] at this;rw [this,gz_get hpl]
        have hlv:gz last x.Parent.toNat<(n:Int):=by rw [gz_get hpl];exact h6 _ (List.getElem_mem hpl)
        have hp1:ParOk l (n+1):=fun m y a b c=>by
          by_cases hm:m=n
          · subst hm;rw [hx] at c;cases c;exact ⟨p0,p1⟩
          · exact hp m y a (by omega) c
        have f1:=formed_eq l n x (gz last x.Parent.toNat) hx hall hp1 (by omega)
        have hun:doc_under x=some (!(x.Parent==0)|| !(x.Kind==2)):=by
          unfold doc_under
          by_cases hz:x.Parent=0
          · rw [hz];rfl
          · rw [show (x.Parent != 0)=true by simpa using hz,beq_eq_false_iff_ne.2 hz];rfl
        simp only [Bool.true_and]
        cases hf:formedB l n (gz last x.Parent.toNat) x with
        |false=>
          rw [hf] at f1
          refine zj ?_;unfold zB
          simp only [e,cond_true,s1,Option.bind_some,Bool.not_true,cond_false,hat,hla,f1,Bool.not_false];rfl
        |true=>
          rw [hf] at f1
          simp only [Bool.true_and]
          cases hu:(!(x.Parent==0)|| !(x.Kind==2)) with
          |false=>
            rw [hu] at hun
            refine zj ?_;unfold zB
            simp only [e,cond_true,s1,Option.bind_some,Bool.not_true,cond_false,hat,hla,f1,hun,Bool.not_false];rfl
          |true=>
            rw [hu] at hun
            rw [if_pos rfl]
            have hput:put last x.Parent (n:Int)=some (last.set x.Parent.toNat (n:Int)):=by have:=put_of hpl (n:Int);rwa [hpn] at this
            have h5':(last.set x.Parent.toNat (n:Int)).length=l.length:=by rw [List.length_set];exact h5
            have h6': ∀ v∈last.set x.Parent.toNat (n:Int),v<((n+1:Nat):Int):=fun v hv=>by
              rcases List.mem_or_eq_of_mem_set hv with h|h
              · have:=h6 v h;omega
              · omega
            have hw:w64 ((n:Int)+1)=((n+1:Nat):Int):=qf (by omega)
            by_cases hz:x.Parent=0
            · by_cases hk:x.Kind=1
              · rw [if_pos ⟨hz,hk⟩]
                by_cases ht:t>0
                · rw [if_pos ht]
                  refine zj ?_;unfold zB
                  simp only [e,cond_true,s1,Option.bind_some,Bool.not_true,cond_false,hat,hla,f1,hun]
                  rw [beq_iff_eq.2 hz,beq_iff_eq.2 hk,show decide (t>0)=true by rw [decide_eq_true_eq];exact ht];rfl
                · rw [if_neg ht,←ih (n+1) (n:Int) _ (by omega) (by omega) (by omega) hp1 h5' h6']
                  refine zv ?_;unfold zB
                  simp only [e,cond_true,s1,Option.bind_some,Bool.not_true,cond_false,hat,hla,f1,hun]
                  rw [beq_iff_eq.2 hz,beq_iff_eq.2 hk,show decide (t>0)=false by rw [decide_eq_false_iff_not];exact ht]
                  simp only [cond_true,cond_false,hput,Option.bind_some,hw]
              · rw [if_neg (fun h=>hk h.2),←ih (n+1) t _ (by omega) (by omega) (by omega) hp1 h5' h6']
                refine zv ?_;unfold zB
                simp only [e,cond_true,s1,Option.bind_some,Bool.not_true,cond_false,hat,hla,f1,hun]
                rw [beq_iff_eq.2 hz,beq_eq_false_iff_ne.2 hk]
                simp only [cond_true,cond_false,hput,Option.bind_some,hw]
            · rw [if_neg (fun h=>hz h.1),←ih (n+1) t _ (by omega) (by omega) (by omega) hp1 h5' h6']
              refine zv ?_;unfold zB
              simp only [e,cond_true,s1,Option.bind_some,Bool.not_true,cond_false,hat,hla,f1,hun]
              rw [beq_eq_false_iff_ne.2 hz]
              simp only [cond_false,hput,Option.bind_some,hw]
    · obtain rfl:n=l.length:=by omega
      rw [List.getElem?_eq_none (Nat.le_refl _)]
      refine zj ?_;unfold zB
      have e:decide ((l.length:Int)<(l.length:Int))=false:=by simp
      simp only [e,cond_false];rfl
def checkL:List ze→Int×Bool
  |[]=>(0,false)
  |r::l'=>bif rootB r then headV (ansC (chkF (r::l') (l'.length+2) 1 0 (List.replicate (l'.length+1) (-1)))) else (0,false)
theorem all_replicate: ∀ (n:Nat) (d:List Int),d.length=n→(∀ v∈d,v= -1)→d=List.replicate n (-1)
  |0,d,h,_=>List.length_eq_zero_iff.1 h
  |n+1,d,h,hv=>by
    cases d with
    |nil=>cases h
    |cons a d=>
      rw [List.replicate_succ,hv a (by simp),←all_replicate n d (by simpa using h) (fun v hv'=>hv v (by simp [hv']))]
theorem check_eq (l:List ze)(hall: ∀ y∈l,okN y)(hlen:l.length≤1073741824):JV l=some (checkL l):=by
  cases l with
  |nil=>rfl
  |cons r l'=>
    show _=some (bif rootB r then headV (ansC (chkF (r::l') (l'.length+2) 1 0 (List.replicate (l'.length+1) (-1)))) else (0,false))
    cases hr:rootB r with
    |false=>rw [head_false r l' hr,cond_false]
    |true=>
      have hr':=hr
      simp only [rootB,Bool.and_eq_true,beq_iff_eq] at hr
      obtain ⟨k0,k1,k2,k3,k4⟩:=hr;obtain ⟨v8,hv8,hl8⟩: ∃ v8:List Int,mk 8 (((r::l':List ze).length:Nat):Int) 0=some v8∧v8.length=(r::l').length:=⟨_,mk_of 0 (by omega),by rw [List.length_replicate];omega⟩;obtain ⟨d',f1,f2,f3⟩:=fill_loop v8 (by omega) v8.length 0 v8 (by omega) (by omega) rfl (by simp)
      have hd':=all_replicate (l'.length+1) d' (by rw [f2,hl8];rfl) f3
      have c:=chk_loop (r::l') r rfl k1 hall (by omega) (l'.length+2) 1 0 d' (by simp) (Nat.le_refl _) (by simp) (fun m x a b=>by omega) (by rw [f2,hl8]) (fun v hv=>by rw [f3 v hv];decide)
      rw [head_true r l' hr' v8 d' _ hv8 f1 c,cond_true,hd']
def wiF (l:List ze):Nat→Nat→List Int→Bool
  |0,_,_=>false
  |k+1,i,dp=>match l[i]? with
    |none=>true
    |some x=>if i=0 then (if gz dp 0>64∨x.Decls.length+x.Attrs.length>64 then false else wiF l k (i+1) dp)
      else (if gz dp x.Parent.toNat+1>64∨x.Decls.length+x.Attrs.length>64 then false else wiF l k (i+1) (dp.set i (gz dp x.Parent.toNat+1)))
def ansW:Bool→Unit⊕Unit
  |true=> .inr ()
  |false=> .inl ()
theorem wi_loop (l:List ze)(hlen:l.length≤4000)(hall: ∀ y∈l,okN y)(hp:ParOk l l.length): ∀ (k i:Nat) (dp:List Int),l.length-i<k→i≤l.length→dp.length=l.length→(∀ v∈dp,0≤v∧v≤(i:Int))→iter (zF l) ((i:Int),dp)=some (ansW (wiF l k i dp)):=by
  intro k
  induction k with
  |zero=>intro i dp h;omega
  |succ k ih=>
    intro i dp h1 h2 h3 h4
    unfold wiF
    by_cases hi:i<l.length
    · have e:decide ((i:Int)<(l.length:Int))=true:=by rw [decide_eq_true_eq];omega
      have hid:i<dp.length:=by omega
      have hx:l[i]? =some l[i]:=List.getElem?_eq_getElem hi
      have hat:at' l (i:Int)=some l[i]:=z7 hi
      have hok:=hall l[i] (List.getElem_mem hi)
      rw [hx]
      dsimp only
      generalize l[i]=x at hx hat hok
      have hsz:w64 ((x.Decls.length:Int)+(x.Attrs.length:Int))=((x.Decls.length+x.Attrs.length:Nat):Int):=by
        have:=hok.2.2.2.2.1;have:=hok.2.2.2.2.2.1
        rw [qy (by omega)];omega
      have hw:w64 ((i:Int)+1)=((i+1:Nat):Int):=qf (by omega)
      have adi:at' dp (i:Int)=some (gz dp i):=by rw [z7 hid,gz_get hid]
      by_cases h0:i=0
      · subst h0
        have e0:decide (((0:Nat):Int)>0)=false:=rfl
        rw [if_pos rfl]
        have st:zF l (((0:Nat):Int),dp)=(bif decide (gz dp 0>64) then some (.inr (.inl ())) else (bif decide (((x.Decls.length+x.Attrs.length:Nat):Int)>64) then some (.inr (.inl ())) else some (.inl (((0+1:Nat):Int),dp)))):=by
          unfold zF
          simp only [e,cond_true,hat,Option.bind_some,e0,cond_false,adi,hsz,hw]
        by_cases c1:gz dp 0>64
        · rw [if_pos (Or.inl c1)]
          rw [show decide (gz dp 0>64)=true by rw [decide_eq_true_eq];exact c1] at st
          exact zj st
        · rw [show decide (gz dp 0>64)=false by rw [decide_eq_false_iff_not];exact c1] at st
          by_cases c2:x.Decls.length+x.Attrs.length>64
          · rw [if_pos (Or.inr c2)]
            rw [show decide (((x.Decls.length+x.Attrs.length:Nat):Int)>64)=true by rw [decide_eq_true_eq];omega] at st
            exact zj st
          · rw [if_neg (by omega)]
            rw [show decide (((x.Decls.length+x.Attrs.length:Nat):Int)>64)=false by rw [decide_eq_false_iff_not];omega] at st
            rw [zv st]
            exact ih (0+1) dp (by omega) (by omega) h3 (fun v hv=>by have:=h4 v hv;omega)
      · have e0:decide ((i:Int)>0)=true:=by rw [decide_eq_true_eq];omega
        obtain ⟨p0,p1⟩:=hp i x (by omega) hi hx
        have hpl:x.Parent.toNat<dp.length:=by omega
        have hpn:((x.Parent.toNat:Nat):Int)=x.Parent:=by omega
        have adp:at' dp x.Parent=some (gz dp x.Parent.toNat):=by have:=z7 hpl;rw [hpn] at this;rw [this,gz_get hpl]
        have hv0:0≤gz dp x.Parent.toNat∧gz dp x.Parent.toNat≤(i:Int):=by rw [gz_get hpl];exact h4 _ (List.getElem_mem hpl)
        generalize gz dp x.Parent.toNat=g at adp hv0 ⊢
        have hwp:w64 (g+1)=g+1:=qy (by omega)
        have hput:put dp (i:Int) (g+1)=some (dp.set i (g+1)):=put_of hid _
        have ads:at' (dp.set i (g+1)) (i:Int)=some (g+1):=by
          have:=z7 (l:=dp.set i (g+1)) (i:=i) (by rw [List.length_set];exact hid)
          rw [this,List.getElem_set_self]
        rw [if_neg h0]
        have st:zF l ((i:Int),dp)=(bif decide (g+1>64) then some (.inr (.inl ())) else (bif decide (((x.Decls.length+x.Attrs.length:Nat):Int)>64) then some (.inr (.inl ())) else some (.inl (((i+1:Nat):Int),dp.set i (g+1))))):=by
          unfold zF
          simp only [e,cond_true,hat,Option.bind_some,e0,adp,adi,hwp,hput,ads,hsz,hw]
        by_cases c1:g+1>64
        · rw [if_pos (Or.inl c1)]
          rw [show decide (g+1>64)=true by rw [decide_eq_true_eq];exact c1] at st
          exact zj st
        · rw [show decide (g+1>64)=false by rw [decide_eq_false_iff_not];exact c1] at st
          by_cases c2:x.Decls.length+x.Attrs.length>64
          · rw [if_pos (Or.inr c2)]
            rw [show decide (((x.Decls.length+x.Attrs.length:Nat):Int)>64)=true by rw [decide_eq_true_eq];omega] at st
            exact zj st
          · rw [if_neg (by omega)]
            rw [show decide (((x.Decls.length+x.Attrs.length:Nat):Int)>64)=false by rw [decide_eq_false_iff_not];omega] at st
            rw [zv st]
            refine ih (i+1) _ (by omega) (by omega) (by rw [List.length_set];exact h3) (fun v hv=> ?_)
            rcases List.mem_or_eq_of_mem_set hv with h|h
            · have:=h4 v h;omega
            · omega
    · rw [List.getElem?_eq_none (by omega)]
      refine zj ?_;unfold zF
      have e:decide ((i:Int)<(l.length:Int))=false:=by rw [decide_eq_false_iff_not];omega
      simp only [e,cond_false];rfl
def withinL (l:List ze):Bool:=if l.length>4000 then false else wiF l (l.length+1) 0 (List.replicate l.length 0)
theorem within_eq (l:List ze)(hall: ∀ y∈l,okN y)(hp:ParOk l l.length):zad l=some (withinL l):=by
  unfold zad withinL
  by_cases h:l.length>4000
  · rw [show decide ((l.length:Int)>4000)=true by rw [decide_eq_true_eq];omega,if_pos h];rfl
  · rw [show decide ((l.length:Int)>4000)=false by rw [decide_eq_false_iff_not];omega,if_neg h]
    simp only [cond_false]
    have hmk:mk 8 (l.length:Int) (0:Int)=some (List.replicate l.length 0):=by rw [mk_of 0 (by omega),Int.toNat_natCast]
    rw [hmk,Option.bind_some]
    have k1:=wi_loop l (by omega) hall hp (l.length+1) 0 (List.replicate l.length 0) (by omega) (by omega) (by simp) (fun v hv=>by rw [(List.mem_replicate.1 hv).2];decide)
    rw [show iter (zF l) (0,List.replicate l.length 0)=_ from k1,Option.bind_some]
    cases wiF l (l.length+1) 0 (List.replicate l.length 0)<;>rfl
def endF (l:List ze):Nat→List Int→List Int
  |0,en=>en
  |k+1,en=>match l[k]? with
    |none=>en
    |some x=>if x.Parent≥0 then endF l k ((en.set k (mx (gz en k) ((k:Int)+1))).set x.Parent.toNat (mx (gz (en.set k (mx (gz en k) ((k:Int)+1))) x.Parent.toNat) (gz (en.set k (mx (gz en k) ((k:Int)+1))) k))) else endF l k (en.set k (mx (gz en k) ((k:Int)+1)))
theorem endF_loop (l:List ze){t:Int}(hL:ListOk l t)(hlen:l.length≤1073741824): ∀ (k:Nat) (en:List Int),k≤l.length→en.length=l.length→iter (zal l) ((k:Int)-1,en)=some (endF l k en):=by
  intro k
  induction k with
  |zero=>intro en h1 h2;exact zj rfl
  |succ k ih=>
    intro en h1 h2
    rw [show (((k+1:Nat):Int)-1)=(k:Int) by omega]
    have hk:k<l.length:=by omega
    have hke:k<en.length:=by omega
    have e:decide ((k:Int)≥0)=true:=by simp
    have hx:l[k]? =some l[k]:=List.getElem?_eq_getElem hk
    have hat:at' l (k:Int)=some l[k]:=z7 hk
    unfold endF
    rw [hx]
    dsimp only
    generalize l[k]=x at hx hat
    have ake:at' en (k:Int)=some (gz en k):=by rw [z7 hke,gz_get hke]
    have pke: ∀ v,put en (k:Int) v=some (en.set k v):=fun v=>put_of hke v
    have hwk:w64 ((k:Int)-1)=(k:Int)-1:=qy (by omega)
    have hwk1:w64 ((k:Int)+1)=(k:Int)+1:=qy (by omega)
    by_cases hpar:x.Parent≥0
    · have hkp:0<k:=by
        rcases Nat.eq_zero_or_pos k with h|h
        · subst h
          obtain ⟨r',r1,_,r2,_⟩:=hL.root
          rw [r1] at hx;cases hx;omega
        · exact h
      obtain ⟨p0,p1⟩:=(hL.node k x hkp hk hx).par
      have hpn:((x.Parent.toNat:Nat):Int)=x.Parent:=by omega
      have hEl:(en.set k (mx (gz en k) ((k:Int)+1))).length=l.length:=by rw [List.length_set];exact h2
      rw [if_pos hpar,←ih _ (by omega) (by rw [List.length_set];exact hEl)]
      refine zv ?_;unfold zal
      simp only [e,cond_true,ake,Option.bind_some,pke,hat,hwk1]
      rw [show decide (x.Parent≥0)=true by rw [decide_eq_true_eq];exact hpar]
      generalize en.set k (mx (gz en k) ((k:Int)+1))=E at hEl ⊢
      have hpl:x.Parent.toNat<E.length:=by omega
      have hkl:k<E.length:=by omega
      have a1:at' E x.Parent=some (gz E x.Parent.toNat):=by have:=z7 hpl;rw [hpn] at this;rw [this,gz_get hpl]
      have a2:at' E (k:Int)=some (gz E k):=by rw [z7 hkl,gz_get hkl]
      have p1': ∀ v,put E x.Parent v=some (E.set x.Parent.toNat v):=fun v=>by have:=put_of hpl v;rwa [hpn] at this
      simp only [cond_true,a1,a2,p1',Option.bind_some,hwk]
    · rw [if_neg hpar,←ih _ (by omega) (by rw [List.length_set];exact h2)]
      refine zv ?_;unfold zal
      simp only [e,cond_true,ake,Option.bind_some,pke,hat,hwk1]
      rw [show decide (x.Parent≥0)=false by rw [decide_eq_false_iff_not];exact hpar]
      simp only [cond_false,hwk]
def ofL (l:List ze):Option Zy×Int:=bif !(checkL l).2 then (none,2) else bif !withinL l then (none,3) else (some (Zy.mk l (endF l l.length (List.replicate l.length 0)) (checkL l).1),0)
theorem Of_eq (l:List ze)(hall: ∀ y∈l,okN y)(hlen:l.length≤1073741824):doc_Of l=some (ofL l):=by
  obtain ⟨v,c1,c2⟩:=check_some l hall hlen
  have c3:=check_eq l hall hlen
  have hv:v=checkL l:=by rw [c1] at c3;exact Option.some.inj c3
  unfold doc_Of ofL
  rw [c3,Option.bind_some]
  cases h:(checkL l).2 with
  |false=>rfl
  |true=>
    have hL:=c2 (by rw [hv];exact h)
    rw [hv] at hL
    have hp:ParOk l l.length:=fun m x a b c=>(hL.node m x a b c).par
    simp only [Bool.not_true,cond_false]
    rw [within_eq l hall hp,Option.bind_some]
    cases hw:withinL l with
    |false=>rfl
    |true=>
      have hl1:1≤l.length:=by
        obtain ⟨r,h0,_⟩:=hL.root
        have:=(List.getElem?_eq_some_iff.1 h0).1;omega
      have hmk:mk 8 (l.length:Int) (0:Int)=some (List.replicate l.length 0):=by rw [mk_of 0 (by omega),Int.toNat_natCast]
      have hc:=copy_loop l hall hlen l.length 0 (by omega) (by omega)
      rw [List.take_zero] at hc
      simp only [Bool.not_true,cond_false]
      rw [hmk,Option.bind_some,show iter (zam l) (0,[])=some l from hc,Option.bind_some,qy (by omega),endF_loop l hL hlen l.length _ (Nat.le_refl _) (by simp),Option.bind_some]
def rootN:ze:=ze.mk 0 (-1) [] [] [] [] [] []
def parseL (b:Str):Option Zy×Int:=
  if b.length>65536 then (none,3) else bif !textB b then (none,2) else bif !(declL (lines b)).1 then (none,2) else
    match runL ((declL (lines b)).2.length+1) (declL (lines b)).2 true [rootN] [] [] with
    |none=>(none,2)
    |some q=>if q.2.2.2.1=[] then ofL q.2.2.1 else (none,2)
theorem Parse_eq (b:Str):Q3 b=some (parseL b):=by
  unfold Q3 parseL
  by_cases hb:b.length>65536
  · rw [show decide ((b.length:Int)>65536)=true by rw [decide_eq_true_eq];omega,if_pos hb];rfl
  · rw [show decide ((b.length:Int)>65536)=false by rw [decide_eq_false_iff_not];omega,Text_eq b (by omega),if_neg hb]
    simp only [cond_false,Option.bind_some]
    cases ht:textB b with
    |false=>rfl
    |true=>
      have hl:=lines_len b
      rw [Lines_eq b (by omega)]
      simp only [Bool.not_true,cond_false,Option.bind_some]
      obtain ⟨v3,d1,d2,d3⟩:=declaration_eq true false [(ze.mk 0 (-1) [] [] [] [] [] [])] [] [] (lines b) (by omega) (lines_text ht)
      rw [d1,←d2]
      simp only [Option.bind_some]
      cases h3:v3.1 with
      |false=>rfl
      |true=>
        obtain ⟨l3,t3⟩:=d3 h3
        have hI:Inv 65536 v3.2 [(ze.mk 0 (-1) [] [] [] [] [] [])] [] []:=⟨t3,by simp;omega,by simp,by simp,(fun o ho=>by cases ho),(fun y hy=>by
          obtain rfl:=List.mem_singleton.1 hy
          exact ⟨Nat.zero_le _,Nat.zero_le _,Nat.zero_le _,Nat.zero_le _,Nat.zero_le _,Nat.zero_le _,by simp,by simp⟩),by simp;omega⟩
        obtain ⟨r1,r2⟩:=run_loop (N:=65536) (by omega) (v3.2.length+1) v3.2 true [(ze.mk 0 (-1) [] [] [] [] [] [])] [] [] (by omega) hI
        simp only [Bool.not_true,cond_false]
        rw [r1]
        show _=some (match runL (v3.2.length+1) v3.2 true [(ze.mk 0 (-1) [] [] [] [] [] [])] [] [] with|none=>(none,2)|some q=>if q.2.2.2.1=[] then ofL q.2.2.1 else (none,2))
        cases hq:runL (v3.2.length+1) v3.2 true [(ze.mk 0 (-1) [] [] [] [] [] [])] [] [] with
        |none=>rfl
        |some q=>
          obtain ⟨nb',l',p',x',rfl,hI'⟩:=r2 q hq
          simp only [Option.bind_some,Sum.elim_inr]
          by_cases hp:p'=[]
          · subst hp
            rw [if_pos rfl]
            simp only [List.length_nil,show decide ((((0:Nat):Int))>0)=false from rfl,cond_false]
            have hl':=hI'.hl
            rw [Of_eq l' hI'.hn (by simp at hl';omega)];rfl
          · have:0<p'.length:=List.length_pos_iff.2 hp
            rw [if_neg hp,show decide ((p'.length:Int)>0)=true by rw [decide_eq_true_eq];omega];rfl
end G
set_option maxRecDepth 20000
set_option linter.unusedVariables false
namespace G
open W
def dI:Zy:=Zy.mk [rootN,ze.mk 1 0 [] [97] [] [] [] [zJ.mk [] [73,100] [] [120]]] [2,2] 1
theorem parseI:parseL [60,97,32,73,100,61,39,120,39,47,62]=(some dI,0):=by kernel_rfl
theorem ofI:ident_Of_e (some dI)=some (some (Jy.mk (some dI) [([120],1)]),0):=by kernel_rfl
theorem nodeI:resolve_Node_e (some (Jy.mk (some dI) [([120],1)])) [35,120]=some (1,false,0):=by kernel_rfl
theorem awake22:qU=some true:=by
  unfold qU
  rw [Parse_eq,parseI,Option.bind_some]
  dsimp only
  rw [ident_Of_le _ _ ofI,Option.bind_some]
  dsimp only
  rw [resolve_Node_le _ _ _ nodeI]
  rfl
end G
set_option maxRecDepth 20000
set_option linter.unusedVariables false
set_option linter.unusedSimpArgs false
namespace G
open W
section
variable {d:Zy} (hd:DocOk d)
theorem Len_eq (d:Zy):zaf (some d)=some (d.l.length:Int):=rfl
theorem has_eq (d:Zy)(n:Int):Q2 (some d) n=some (decide (0≤n∧n<(d.l.length:Int))):=by
  unfold Q2
  rw [Len_eq]
  by_cases h:n≥0
  · rw [show decide (n≥0)=true by rw [decide_eq_true_eq];exact h]
    simp only [cond_true,Option.bind_some]
    congr 1
    rw [Bool.eq_iff_iff];simp only [decide_eq_true_eq];omega
  · rw [show decide (n≥0)=false by rw [decide_eq_false_iff_not];exact h]
    simp only [cond_false]
    congr 1
    rw [Bool.eq_iff_iff];simp only [decide_eq_true_eq];simp;omega
theorem has_in {d:Zy}{m:Nat}(h:m<d.l.length):Q2 (some d) (m:Int)=some true:=by
  rw [has_eq];congr 1;rw [decide_eq_true_eq];omega
include hd in
theorem Node_in {m:Nat}{x:ze}(hx:d.l[m]? =some x):ZC (some d) (m:Int)=some x:=by
  unfold ZC
  have hm:=(List.getElem?_eq_some_iff.1 hx).1
  rw [has_in hm]
  simp only [Option.bind_some,Bool.not_true,cond_false]
  rw [J2,hx]
  simp only [Option.bind_some]
  rw [cloneD_eq x (hd.size x (List.mem_of_getElem? hx))];rfl
end
end G
set_option maxRecDepth 20000
set_option linter.unusedVariables false
set_option linter.unusedSimpArgs false
namespace G
open W
theorem names_some (a:zJ): ∃ v,ident_names a=some v:=by
  unfold ident_names
  cases (a.URI==[104,116,116,112,58,47,47,119,119,119,46,119,51,46,111,114,103,47,88,77,76,47,49,57,57,56,47,110,97,109,101,115,112,97,99,101])<;>cases (a.URI==[])<;>cases (a.Local==[73,100])<;>cases (a.Local==[73,68])<;>exact ⟨_,rfl⟩
theorem mem_mput {κ ν:Type}[DecidableEq κ]{x:κ×ν}{k:κ}{v:ν}: ∀ {m:List (κ×ν)},x∈mput m k v→x=(k,v)∨x∈m
  |[],h=>by
    unfold mput at h;exact Or.inl (List.mem_singleton.1 h)
  |(a,y)::r,h=>by
    unfold mput at h
    split at h
    · rcases List.mem_cons.1 h with h|h
      · exact Or.inl h
      · exact Or.inr (List.mem_cons_of_mem _ h)
    · rcases List.mem_cons.1 h with h|h
      · exact Or.inr (h ▸ List.mem_cons_self)
      · rcases mem_mput h with h|h
        · exact Or.inl h
        · exact Or.inr (List.mem_cons_of_mem _ h)
section
variable {d:Zy} (hd:DocOk d)
def IdOk (d:Zy)(m:List (Str×Int)):Prop:= ∀ x∈m,∃ j:Nat,x.2=(j:Int)∧j<d.l.length
theorem add_loop (x:ze)(hx:x.Attrs.length≤1000000){n:Nat}(hn:n<d.l.length): ∀ (c i:Nat) (m:List (Str×Int)),x.Attrs.length-i≤c→i≤x.Attrs.length→IdOk d m→ ∃ v,iter (zQ (n:Int) x) ((i:Int),m)=some v∧(∀ m',v= .inr m'→IdOk d m'):=by
  intro c
  induction c with
  |zero=>
    intro i m h1 h2 h3
    obtain rfl:i=x.Attrs.length:=by omega
    refine ⟨.inr m,zj ?_,fun m' h=>by cases h;exact h3⟩;unfold zQ
    simp only
    rw [show decide ((x.Attrs.length:Int)<(x.Attrs.length:Int))=false by simp]
    rfl
  |succ c ih=>
    intro i m h1 h2 h3
    by_cases hi:i<x.Attrs.length
    · have e:decide ((i:Int)<(x.Attrs.length:Int))=true:=by rw [decide_eq_true_eq];omega
      have hw:w64 ((i:Int)+1)=((i+1:Nat):Int):=qf (by omega)
      obtain ⟨v,hv⟩:=names_some x.Attrs[i]
      cases v with
      |false=>
        obtain ⟨r,r1,r2⟩:=ih (i+1) m (by omega) (by omega) h3;refine ⟨r,?_,r2⟩
        rw [←r1]
        refine zv ?_;unfold zQ
        simp only [e,cond_true,z7 hi,Option.bind_some,hv,Bool.not_false,hw]
      |true=>
        cases hg:(mget m x.Attrs[i].Value).isSome with
        |true=>
          refine ⟨.inl m,zj ?_,fun m' h=>by cases h⟩;unfold zQ
          simp only [e,cond_true,z7 hi,Option.bind_some,hv,Bool.not_true,cond_false,hg]
        |false=>
          obtain ⟨r,r1,r2⟩:=ih (i+1) (mput m x.Attrs[i].Value (n:Int)) (by omega) (by omega) (fun y hy=>by
            rcases mem_mput hy with h|h
            · subst h;exact ⟨n,rfl,hn⟩
            · exact h3 y h)
          refine ⟨r,?_,r2⟩
          rw [←r1]
          refine zv ?_;unfold zQ
          simp only [e,cond_true,z7 hi,Option.bind_some,hv,Bool.not_true,cond_false,hg,hw]
    · obtain rfl:i=x.Attrs.length:=by omega
      refine ⟨.inr m,zj ?_,fun m' h=>by cases h;exact h3⟩;unfold zQ
      simp only
      rw [show decide ((x.Attrs.length:Int)<(x.Attrs.length:Int))=false by simp]
      rfl
include hd in
theorem add_some {n:Nat}(hn:n<d.l.length){m:List (Str×Int)}(hm:IdOk d m): ∃ b m',qT (n:Int) (some d) m=some (b,m')∧(b=true→IdOk d m'):=by
  have hx:d.l[n]? =some d.l[n]:=List.getElem?_eq_getElem hn
  generalize d.l[n]=x at hx
  have hf:=hd.few x (List.mem_of_getElem? hx)
  obtain ⟨v,h1,h2⟩:=add_loop (d:=d) x (by omega) hn x.Attrs.length 0 m (by omega) (Nat.zero_le _) hm;unfold qT
  rw [Node_in hd hx,Option.bind_some,show iter (zQ (n:Int) x) (0,m)=_ from h1]
  cases v with
  |inl m'=>exact ⟨false,m',rfl,fun h=>by cases h⟩
  |inr m'=>exact ⟨true,m',rfl,fun _=>h2 m' rfl⟩
include hd in
theorem of_loop: ∀ (c i:Nat) (m:List (Str×Int)),d.l.length-i≤c→i≤d.l.length→IdOk d m→ ∃ v,iter (Z4 (some d) (d.l.length:Int)) ((i:Int),m)=some v∧(∀ m',v= .inr m'→IdOk d m'):=by
  have hmany:=hd.many
  intro c
  induction c with
  |zero=>
    intro i m h1 h2 h3
    obtain rfl:i=d.l.length:=by omega
    refine ⟨.inr m,zj ?_,fun m' h=>by cases h;exact h3⟩;unfold Z4
    simp only
    rw [show decide ((d.l.length:Int)<(d.l.length:Int))=false by simp]
    rfl
  |succ c ih=>
    intro i m h1 h2 h3
    by_cases hi:i<d.l.length
    · have e:decide ((i:Int)<(d.l.length:Int))=true:=by rw [decide_eq_true_eq];omega
      have hw:w64 ((i:Int)+1)=((i+1:Nat):Int):=qf (by omega)
      obtain ⟨b,m',a1,a2⟩:=add_some hd hi h3
      cases b with
      |false=>
        refine ⟨.inl (),zj ?_,fun m' h=>by cases h⟩;unfold Z4
        simp only [e,cond_true,a1,Option.bind_some,Bool.not_false]
      |true=>
        obtain ⟨r,r1,r2⟩:=ih (i+1) m' (by omega) (by omega) (a2 rfl);refine ⟨r,?_,r2⟩
        rw [←r1]
        refine zv ?_;unfold Z4
        simp only [e,cond_true,a1,Option.bind_some,Bool.not_true,cond_false,hw]
    · obtain rfl:i=d.l.length:=by omega
      refine ⟨.inr m,zj ?_,fun m' h=>by cases h;exact h3⟩;unfold Z4
      simp only
      rw [show decide ((d.l.length:Int)<(d.l.length:Int))=false by simp]
      rfl
include hd in
theorem IdOf_some:J1 (some d)=some (none,9)∨ ∃ m,J1 (some d)=some (some (Jy.mk (some d) m),0)∧IdOk d m:=by
  obtain ⟨v,h1,h2⟩:=of_loop hd d.l.length 0 [] (by omega) (Nat.zero_le _) (fun x h=>by cases h);unfold J1
  simp only [Option.isNone_some,cond_false,Len_eq,Option.bind_some]
  rw [show iter (Z4 (some d) (d.l.length:Int)) (0,[])=_ from h1]
  cases v with
  |inl u=>exact Or.inl rfl
  |inr m=>exact Or.inr ⟨m,rfl,h2 m rfl⟩
end
theorem IdOf_none:J1 none=some (none,1):=rfl
def cutS (t s:Str):Str×Bool:=bif decide (t.length≤s.length)&&(s.drop (s.length-t.length)==t) then (s.take (s.length-t.length),true) else (s,false)
theorem CutSuffix_eq (s t:Str)(h:s.length≤1048576):Qr s t=some (cutS t s):=by
  have hs:=HasSuffix_eq s t h
  unfold ZH at hs;unfold Qr Qi cutS
  cases hv:qJ s t with
  |none=>rw [hv] at hs;cases hs
  |some v=>
    rw [hv] at hs
    have hs:v=(decide (t.length≤s.length)&&(s.drop (s.length-t.length)==t)):=Option.some.inj hs
    rw [←hs,Option.bind_some]
    cases v with
    |false=>rfl
    |true=>
      have hl:t.length≤s.length:=by
        have:=hs.symm
        rw [Bool.and_eq_true,decide_eq_true_eq] at this
        exact this.1
      simp only [Bool.not_true,cond_false,cond_true]
      rw [qy (by omega),show ((s.length:Int)-(t.length:Int))=((s.length-t.length:Nat):Int) by omega]
      rw [Jr (by omega)]
      simp
def betwL (s a b:Str):Str×Bool:=((cutS b (cutP a s).1).1,(cutP a s).2&&(cutS b (cutP a s).1).2)
theorem cutS_len (p s:Str):(cutS p s).1.length≤s.length:=by
  unfold cutS
  cases (decide (p.length≤s.length)&&(s.drop (s.length-p.length)==p)) with
  |false=>exact Nat.le_refl _
  |true=>simp
theorem rbetween_eq (s a b:Str)(h:s.length≤1048576):Zk s a b=some (betwL s a b):=by
  have:=Jl a s
  unfold Zk betwL
  rw [CutPrefix_eq,Option.bind_some,CutSuffix_eq _ _ (by omega),Option.bind_some]
  cases (cutP a s).2<;>rfl
def xpI:Str:=[35,120,112,111,105,110,116,101,114,40,105,100,40]
def calL (u:Str):Str×Bool×Bool:=
  bif (betwL u (xpI++[39]) [39,41,41]).2 then ((betwL u (xpI++[39]) [39,41,41]).1,true,nameB (betwL u (xpI++[39]) [39,41,41]).1)
  else bif (betwL u (xpI++[34]) [34,41,41]).2 then ((betwL u (xpI++[34]) [34,41,41]).1,true,nameB (betwL u (xpI++[34]) [34,41,41]).1)
  else ((cutP [35] u).1,false,(cutP [35] u).2&&nameB (cutP [35] u).1)
theorem called_eq (u:Str)(h:u.length≤1048576):Qa u=some (calL u):=by
  have l1:(betwL u (xpI++[39]) [39,41,41]).1.length≤1048576:=by
    have:=Jl (xpI++[39]) u;have:=cutS_len [39,41,41] (cutP (xpI++[39]) u).1
    unfold betwL;dsimp only;omega
  have l2:(betwL u (xpI++[34]) [34,41,41]).1.length≤1048576:=by
    have:=Jl (xpI++[34]) u;have:=cutS_len [34,41,41] (cutP (xpI++[34]) u).1
    unfold betwL;dsimp only;omega
  have l3:=Jl [35] u
  have s0:Zh u 0=some (bif (betwL u (xpI++[39]) [39,41,41]).2 then .inr (.inl ((betwL u (xpI++[39]) [39,41,41]).1,nameB (betwL u (xpI++[39]) [39,41,41]).1)) else .inl 1):=by
    show ((cat xpI [39]).bind fun v3=>(cat [39] [41,41]).bind fun v4=>(Zk u v3 v4).bind fun v5=>(bif v5.2 then (Zz v5.1).bind fun v6=>some (Sum.inr (Sum.inl (v5.1,v6))) else some (Sum.inl (w64 (0+1)))):Option (Int⊕((Str×Bool)⊕Unit)))=_
    rw [cat_of (by decide),Option.bind_some,cat_of (by decide),Option.bind_some,show ([39]++[41,41]:Str)=[39,41,41] from rfl,rbetween_eq _ _ _ h,Option.bind_some]
    cases (betwL u (xpI++[39]) [39,41,41]).2 with
    |false=>rfl
    |true=>simp only [cond_true];rw [Is_eq _ (by omega)];rfl
  have s1:Zh u 1=some (bif (betwL u (xpI++[34]) [34,41,41]).2 then .inr (.inl ((betwL u (xpI++[34]) [34,41,41]).1,nameB (betwL u (xpI++[34]) [34,41,41]).1)) else .inl 2):=by
    show ((cat xpI [34]).bind fun v3=>(cat [34] [41,41]).bind fun v4=>(Zk u v3 v4).bind fun v5=>(bif v5.2 then (Zz v5.1).bind fun v6=>some (Sum.inr (Sum.inl (v5.1,v6))) else some (Sum.inl (w64 (1+1)))):Option (Int⊕((Str×Bool)⊕Unit)))=_
    rw [cat_of (by decide),Option.bind_some,cat_of (by decide),Option.bind_some,show ([34]++[41,41]:Str)=[34,41,41] from rfl,rbetween_eq _ _ _ h,Option.bind_some]
    cases (betwL u (xpI++[34]) [34,41,41]).2 with
    |false=>rfl
    |true=>simp only [cond_true];rw [Is_eq _ (by omega)];rfl
  have s2:Zh u 2=some (.inr (.inr ())):=rfl
  unfold Qa calL
  cases c0:(betwL u (xpI++[39]) [39,41,41]).2 with
  |true=>
    rw [c0] at s0
    rw [zj s0];rfl
  |false=>
    rw [c0] at s0
    rw [zv s0]
    cases c1:(betwL u (xpI++[34]) [34,41,41]).2 with
    |true=>
      rw [c1] at s1
      rw [zj s1];rfl
    |false=>
      rw [c1] at s1
      rw [zv s1,zj s2]
      simp only [Option.bind_some,Sum.elim_inr,cond_false]
      rw [CutPrefix_eq,Option.bind_some]
      cases c2:(cutP [35] u).2 with
      |false=>rfl
      |true=>simp only [cond_true,Bool.true_and];rw [Is_eq _ (by omega)];rfl
end G
set_option maxRecDepth 20000
set_option linter.unusedVariables false
set_option linter.unusedSimpArgs false
namespace G
open W
theorem Set_none (u:Str):zak none u=some ([],8):=rfl
theorem cutP_off (p:Str)(c:UInt8)(r:Str)(hp: ∃ q,p=35::q)(hc:c≠35):cutP p (c::r)=(c::r,false):=by
  obtain ⟨q,rfl⟩:=hp
  have h:(35::q).isPrefixOf (c::r)=false:=by
    show ((35:UInt8)==c&&_)=false
    rw [beq_eq_false_iff_ne.2 (Ne.symm hc),Bool.false_and]
  unfold cutP
  rw [h];rfl
theorem calL_off (c:UInt8)(r:Str)(hc:c≠35):(calL (c::r)).2.2=false:=by
  have h1:=cutP_off (xpI++[39]) c r ⟨_,rfl⟩ hc
  have h2:=cutP_off (xpI++[34]) c r ⟨_,rfl⟩ hc
  have h3:=cutP_off [35] c r ⟨_,rfl⟩ hc
  have b1:(betwL (c::r) (xpI++[39]) [39,41,41]).2=false:=by unfold betwL;dsimp only;rw [h1];rfl
  have b2:(betwL (c::r) (xpI++[34]) [34,41,41]).2=false:=by unfold betwL;dsimp only;rw [h2];rfl
  unfold calL
  rw [b1,b2,h3];rfl
theorem Set_off (x:Jy)(c:UInt8)(r:Str)(hc:c≠35)(hl:(c::r).length≤1048576):zak (some x) (c::r)=some ([],8):=by
  have h:=calL_off c r hc
  unfold zak Q8
  rw [show ((c::r:Str)==[])=false from rfl,show ((c::r:Str)==[35,120,112,111,105,110,116,101,114,40,47,41])=false by
    rw [beq_eq_false_iff_ne];intro e;injection e with e1 e2;exact hc e1,called_eq _ hl]
  simp only [Option.isNone_some,cond_false,Option.bind_some]
  generalize calL (c::r)=q at h
  obtain ⟨q1,q2,q3⟩:=q
  dsimp only at h
  subst h
  rfl
theorem resolveOut_plain (b:List UInt8)(u:Str):Zp b u=some true:=by
  unfold Zp
  rw [awake22]
  simp only [Option.bind_some,Bool.not_true,cond_false]
  by_cases hb:(b.length:Int)>800
  · rw [show decide ((b.length:Int)>800)=true by rw [decide_eq_true_eq];exact hb];rfl
  · rw [show decide ((b.length:Int)>800)=false by rw [decide_eq_false_iff_not];exact hb]
    simp only [cond_false]
    by_cases hu:(u.length:Int)>300
    · rw [show decide ((u.length:Int)>300)=true by rw [decide_eq_true_eq];exact hu];rfl
    · rw [show decide ((u.length:Int)>300)=false by rw [decide_eq_false_iff_not];exact hu]
      simp only [cond_false]
      cases u with
      |nil=>rfl
      |cons c r=>
        rw [show ((c::r:Str)==[])=false from rfl,show at' (c::r:Str) 0=some c from rfl]
        simp only [cond_false,Option.bind_some]
        by_cases hc:c=35
        · subst hc;rfl
        · rw [show ((c.toNat:Int)==35)=false by
            rw [beq_eq_false_iff_ne];intro e;exact hc (UInt8.toNat_inj.1 (by show c.toNat=35;omega))]
          simp only [cond_false]
          obtain ⟨v,hv,h⟩:=Parse_some b
          rw [hv]
          simp only [Option.bind_some]
          obtain ⟨v1,v2⟩:=v
          rcases h with ⟨h1,h2⟩|⟨d,h1,h2,hd⟩
          · dsimp only at h1 h2
            subst h1
            rw [IdOf_none,Option.bind_some]
            dsimp only
            rw [Set_none];rfl
          · dsimp only at h1 h2
            subst h1 h2
            rcases IdOf_some hd with e|⟨m,e,_⟩
            · rw [e,Option.bind_some]
              dsimp only
              rw [Set_none];rfl
            · rw [e,Option.bind_some]
              dsimp only
              rw [Set_off _ c r hc (by omega)];rfl
end G
