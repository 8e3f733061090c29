/-
  THE DOCUMENT, plain, fourth part: a list within its limits; the document of a list; a document read. No program, no memory. Conditions: none.
  THE DOCUMENT, plain: what is reckoned of a list, and of bytes, as functions that can be evaluated. No program, no memory. Conditions: none.
  WHAT THE LAWS' OWN TESTS ANSWER, plain: each parses one small document; the kernel reckons it. No program, no memory. Conditions: none.
  THE DOCUMENT'S FUNCTIONS, plain: how many nodes, a node, its end, its children, its text: reckoned. No program, no memory. Conditions: none.
  PointTexts, plain: an element's text is the texts of its children, but comments and instructions, one behind the other. No program, no memory. Conditions: none.
-/
import Derived.Test.YtojbjdcflgeibaaGreatDoorPlain1
import Derived.KernelRfl
set_option maxRecDepth 20000
set_option linter.unusedVariables false
set_option linter.unusedSimpArgs false
namespace G
open W
open Go.Lib (decodeL decodeN validD index cut contains replaceK replaceAll)
theorem within_loop (l:List ze)(hlen:l.length≤4000)(hall: ∀ y∈l,okN y)(hp:ParOk l l.length): ∀ (k i:Nat) (dp:List Int),l.length-i≤k→i≤l.length→dp.length=l.length→(∀ v∈dp,0≤v∧v≤(i:Int))→ ∃ v,iter (zG l) ((i:Int),dp)=some v∧(v= .inr ()→ ∀ m x,i≤m→l[m]? =some x→x.Decls.length+x.Attrs.length≤64):=by
  intro k
  induction k with
  |zero=>
    intro i dp h1 h2 h3 h4
    refine ⟨.inr (),zj ?_,fun _ m x hm hx=> ?_⟩
    · unfold zG
      have e:decide ((i:Int)<(l.length:Int))=false:=by rw [decide_eq_false_iff_not];omega
      simp only [e,cond_false]
    · have:=(List.getElem?_eq_some_iff.1 hx).1;omega
  |succ k ih=>
    intro i dp h1 h2 h3 h4
    by_cases hi:i<l.length
    · have e:decide ((i:Int)<(l.length:Int))=true:=by rw [decide_eq_true_eq];omega
      have hid:i<dp.length:=by omega
      have hx:l[i]? =some l[i]:=List.getElem?_eq_getElem hi
      have hat:at' l (i:Int)=some l[i]:=qe hi
      have hok:=hall l[i] (List.getElem_mem hi)
      generalize l[i]=x at hx hat hok
      have hsz:w64 ((x.Decls.length:Int)+(x.Attrs.length:Int))=((x.Decls.length+x.Attrs.length:Nat):Int):=by
        have:=hok.2.2.2.2.1;have:=hok.2.2.2.2.2.1
        rw [qG (by omega)];omega
      have hw:w64 ((i:Int)+1)=((i+1:Nat):Int):=qc (by omega)
      have adi:at' dp (i:Int)=some dp[i]:=qe hid
      have bad:zG l ((i:Int),dp)=some (.inr (.inl ()))→ ∃ v,iter (zG l) ((i:Int),dp)=some v∧(v= .inr ()→ ∀ m x,i≤m→l[m]? =some x→x.Decls.length+x.Attrs.length≤64):=fun h=>⟨.inl (),zj h,fun h=>by cases h⟩
      have next: ∀ dp':List Int,dp'.length=l.length→(∀ v∈dp',0≤v∧v≤((i+1:Nat):Int))→x.Decls.length+x.Attrs.length≤64→zG l ((i:Int),dp)=some (.inl (((i+1:Nat):Int),dp'))→ ∃ v,iter (zG l) ((i:Int),dp)=some v∧(v= .inr ()→ ∀ m x,i≤m→l[m]? =some x→x.Decls.length+x.Attrs.length≤64):=fun dp' a b c h=>by
        obtain ⟨v,k1,k2⟩:=ih (i+1) dp' (by omega) (by omega) a b;refine ⟨v,by rw [zw h];exact k1,fun hv m y hm hy=> ?_⟩
        by_cases hmi:m=i
        · subst hmi;rw [hx] at hy;cases hy;exact c
        · exact k2 hv m y (by omega) hy
      by_cases h0:i=0
      · subst h0
        have e0:decide (((0:Nat):Int)>0)=false:=rfl
        by_cases c1:dp[0]>64
        · apply bad;unfold zG
          simp only [e,cond_true,hat,Option.bind_some,e0,cond_false,adi]
          rw [show decide (dp[0]>64)=true by rw [decide_eq_true_eq];exact c1];rfl
        · by_cases c2:x.Decls.length+x.Attrs.length>64
          · apply bad;unfold zG
            simp only [e,cond_true,hat,Option.bind_some,e0,cond_false,adi]
            rw [show decide (dp[0]>64)=false by rw [decide_eq_false_iff_not];exact c1,hsz,show decide (((x.Decls.length+x.Attrs.length:Nat):Int)>64)=true by rw [decide_eq_true_eq];omega];rfl
          · refine next dp h3 (fun v hv=>by have:=h4 v hv;omega) (by omega) ?_;unfold zG
            simp only [e,cond_true,hat,Option.bind_some,e0,cond_false,adi]
            rw [show decide (dp[0]>64)=false by rw [decide_eq_false_iff_not];exact c1,hsz,show decide (((x.Decls.length+x.Attrs.length:Nat):Int)>64)=false by rw [decide_eq_false_iff_not];omega,hw];rfl
      · have e0:decide ((i:Int)>0)=true:=by rw [decide_eq_true_eq];omega
        obtain ⟨p0,p1⟩:=hp i x (by omega) hi hx
        have hpl:x.Parent.toNat<dp.length:=by omega
        have hpn:((x.Parent.toNat:Nat):Int)=x.Parent:=by omega
        have adp:at' dp x.Parent=some dp[x.Parent.toNat]:=by have:=qe hpl;rwa [hpn] at this
        have hv0:=h4 _ (List.getElem_mem hpl)
        have hwp:w64 (dp[x.Parent.toNat]+1)=dp[x.Parent.toNat]+1:=qG (by omega)
        have hput:put dp (i:Int) (dp[x.Parent.toNat]+1)=some (dp.set i (dp[x.Parent.toNat]+1)):=put_of hid _
        have ads:at' (dp.set i (dp[x.Parent.toNat]+1)) (i:Int)=some (dp[x.Parent.toNat]+1):=by
          have:=qe (l:=dp.set i (dp[x.Parent.toNat]+1)) (i:=i) (by rw [List.length_set];exact hid)
          rw [this,List.getElem_set_self]
        have st:zG l ((i:Int),dp)=(bif decide (dp[x.Parent.toNat]+1>64) then some (.inr (.inl ())) else (bif decide (((x.Decls.length+x.Attrs.length:Nat):Int)>64) then some (.inr (.inl ())) else some (.inl (((i+1:Nat):Int),dp.set i (dp[x.Parent.toNat]+1))))):=by
          unfold zG
          simp only [e,cond_true,hat,Option.bind_some,e0,adp,adi,hwp,hput,ads,hsz,hw]
        by_cases c1:dp[x.Parent.toNat]+1>64
        · apply bad
          rw [st,show decide (dp[x.Parent.toNat]+1>64)=true by rw [decide_eq_true_eq];exact c1];rfl
        · rw [show decide (dp[x.Parent.toNat]+1>64)=false by rw [decide_eq_false_iff_not];exact c1] at st
          by_cases c2:x.Decls.length+x.Attrs.length>64
          · apply bad
            rw [st,show decide (((x.Decls.length+x.Attrs.length:Nat):Int)>64)=true by rw [decide_eq_true_eq];omega];rfl
          · rw [show decide (((x.Decls.length+x.Attrs.length:Nat):Int)>64)=false by rw [decide_eq_false_iff_not];omega] at st
            refine next _ (by rw [List.length_set];exact h3) (fun v hv=> ?_) (by omega) st
            rcases List.mem_or_eq_of_mem_set hv with h|h
            · have:=h4 v h;omega
            · omega
    · refine ⟨.inr (),zj ?_,fun _ m x hm hx=> ?_⟩
      · unfold zG
        have e:decide ((i:Int)<(l.length:Int))=false:=by rw [decide_eq_false_iff_not];omega
        simp only [e,cond_false]
      · have:=(List.getElem?_eq_some_iff.1 hx).1;omega
theorem within_some (l:List ze)(hall: ∀ y∈l,okN y)(hp:ParOk l l.length): ∃ v,zad l=some v∧(v=true→l.length≤4000∧ ∀ x∈l,x.Decls.length+x.Attrs.length≤64):=by
  unfold zad
  by_cases h:l.length>4000
  · rw [show decide ((l.length:Int)>4000)=true by rw [decide_eq_true_eq];omega]
    exact ⟨false,rfl,fun h=>by cases h⟩
  · rw [show decide ((l.length:Int)>4000)=false by rw [decide_eq_false_iff_not];omega]
    obtain ⟨dp,hdp,hl,h0⟩: ∃ dp:List Int,mk 8 (l.length:Int) 0=some dp∧dp.length=l.length∧ ∀ v∈dp,v=0:=⟨_,mk_of 0 (by omega),by rw [List.length_replicate];omega,fun v hv=>(List.mem_replicate.1 hv).2⟩;obtain ⟨v,k1,k2⟩:=within_loop l (by omega) hall hp l.length 0 dp (by omega) (by omega) hl (fun v hv=>by rw [h0 v hv];decide)
    rw [hdp]
    simp only [cond_false,Option.bind_some]
    rw [show iter (zG l) (0,dp)=_ from k1]
    cases v with
    |inl u=>exact ⟨false,rfl,fun h=>by cases h⟩
    |inr u=>exact ⟨true,rfl,fun _=>⟨by omega,fun x hx=>by
        obtain ⟨m,hm⟩:=List.getElem?_of_mem hx
        exact k2 rfl m x (Nat.zero_le _) hm⟩⟩
theorem cloneD_eq (x:ze)(h:okN x):doc_clone x=some (x.Kind,x.Parent,x.Prefix,x.Local,x.URI,x.Text,x.Decls,x.Attrs):=by
  have h1:=h.2.2.2.2.1;have h2:=h.2.2.2.2.2.1
  unfold doc_clone ZV JE
  rw [Q1 (by simp;omega),Q1 (by simp;omega)];rfl
theorem copy_loop (l:List ze)(hall: ∀ y∈l,okN y)(hlen:l.length≤1073741824): ∀ (k i:Nat),l.length-i≤k→i≤l.length→iter (zaj l) ((i:Int),l.take i)=some l:=by
  intro k
  induction k with
  |zero=>
    intro i h1 h2
    refine zj ?_;unfold zaj
    have e:decide ((i:Int)<(l.length:Int))=false:=by rw [decide_eq_false_iff_not];omega
    rw [List.take_of_length_le (by omega)]
    simp only [e,cond_false]
  |succ k ih=>
    intro i h1 h2
    by_cases hi:i<l.length
    · have e:decide ((i:Int)<(l.length:Int))=true:=by rw [decide_eq_true_eq];omega
      have k1:=ih (i+1) (by omega) (by omega)
      rw [List.take_succ_eq_append_getElem hi] at k1
      rw [←k1]
      refine zw ?_;unfold zaj
      simp only [e,cond_true]
      rw [qe hi]
      simp only [Option.bind_some]
      rw [cloneD_eq _ (hall _ (List.getElem_mem hi))]
      simp only [Option.bind_some]
      rw [Q1 (by simp;omega)]
      simp only [Option.bind_some]
      rw [qc (by omega)]
    · refine zj ?_;unfold zaj
      have e:decide ((i:Int)<(l.length:Int))=false:=by rw [decide_eq_false_iff_not];omega
      rw [List.take_of_length_le (by omega)]
      simp only [e,cond_false]
theorem end_loop (l:List ze){t:Int}(hL:ListOk l t)(hlen:l.length≤1073741824): ∀ (k:Nat) (en:List Int),k≤l.length→EInv l k en→ ∃ en',iter (zam l) ((k:Int)-1,en)=some en'∧EInv l 0 en':=by
  intro k
  induction k with
  |zero=>
    intro en h1 h2
    exact ⟨en,zj rfl,h2⟩
  |succ k ih=>
    intro en h1 h2
    rw [show (((k+1:Nat):Int)-1)=(k:Int) by omega]
    have hk:k<l.length:=by omega
    have hke:k<en.length:=by have:=h2.len;omega
    have e:decide ((k:Int)≥0)=true:=by simp
    have hx:l[k]? =some l[k]:=List.getElem?_eq_getElem hk
    have hat:at' l (k:Int)=some l[k]:=qe hk
    generalize l[k]=x at hx hat
    have hst:=h2.step hL hk hx
    have ake:at' en (k:Int)=some (gz en k):=by rw [qe hke,gz_get hke]
    have pke: ∀ v,put en (k:Int) v=some (en.set k v):=fun v=>put_of hke v
    have hwk:w64 ((k:Int)-1)=(k:Int)-1:=qG (by omega)
    have hwk1:w64 ((k:Int)+1)=(k:Int)+1:=qG (by omega)
    by_cases hpar:x.Parent≥0
    · have hkp:0<k:=by
        rcases Nat.eq_zero_or_pos k with h|h
        · subst h
          obtain ⟨r',r1,_,r2,_⟩:=hL.root
          rw [r1] at hx;cases hx;omega
        · exact h
      obtain ⟨p0,p1⟩:=(hL.node k x hkp hk hx).par
      have hpn:((x.Parent.toNat:Nat):Int)=x.Parent:=by omega
      have hs:=hst.1 hpar
      have hEl:(en.set k (mx (gz en k) ((k:Int)+1))).length=l.length:=by rw [List.length_set];exact h2.len
      obtain ⟨en',k1,k2⟩:=ih _ (by omega) hs;refine ⟨en',?_,k2⟩
      rw [←k1]
      refine zw ?_;unfold zam
      simp only [e,cond_true,ake,Option.bind_some,pke,hat,hwk1]
      rw [show decide (x.Parent≥0)=true by rw [decide_eq_true_eq];exact hpar]
      generalize en.set k (mx (gz en k) ((k:Int)+1))=E at hEl ⊢
      have hpl:x.Parent.toNat<E.length:=by omega
      have hkl:k<E.length:=by omega
      have a1:at' E x.Parent=some (gz E x.Parent.toNat):=by have:=qe hpl;rw [hpn] at this;rw [this,gz_get hpl]
      have a2:at' E (k:Int)=some (gz E k):=by rw [qe hkl,gz_get hkl]
      have p1': ∀ v,put E x.Parent v=some (E.set x.Parent.toNat v):=fun v=>by have:=put_of hpl v;rwa [hpn] at this
      simp only [cond_true,a1,a2,p1',Option.bind_some,hwk]
    · obtain ⟨en',k1,k2⟩:=ih _ (by omega) (hst.2 hpar);refine ⟨en',?_,k2⟩
      rw [←k1]
      refine zw ?_;unfold zam
      simp only [e,cond_true,ake,Option.bind_some,pke,hat,hwk1]
      rw [show decide (x.Parent≥0)=false by rw [decide_eq_false_iff_not];exact hpar]
      simp only [cond_false,hwk]
structure DocOk (d:qt):Prop where
  list:ListOk d.l d.top
  many:d.l.length≤4000
  few: ∀ x∈d.l,x.Decls.length+x.Attrs.length≤64
  size: ∀ x∈d.l,okN x
  ends:EndOk d.l d.end_
theorem Of_some (l:List ze)(hall: ∀ y∈l,okN y)(hlen:l.length≤1073741824):doc_Of l=some (none,2)∨doc_Of l=some (none,3)∨ ∃ d,doc_Of l=some (some d,0)∧d.l=l∧DocOk d:=by
  obtain ⟨v,c1,c2⟩:=check_some l hall hlen;unfold doc_Of
  rw [c1]
  simp only [Option.bind_some]
  cases h:v.2 with
  |false=>exact Or.inl rfl
  |true=>
    have hL:=c2 h
    obtain ⟨r,h0,_,hr,_⟩:=hL.root
    have hp:ParOk l l.length:=fun m x a b c=>(hL.node m x a b c).par
    obtain ⟨w,w1,w2⟩:=within_some l hall hp
    simp only [Bool.not_true,cond_false,w1,Option.bind_some]
    cases hw:w with
    |false=>exact Or.inr (Or.inl rfl)
    |true=>
      obtain ⟨m1,m2⟩:=w2 hw
      right;right
      obtain ⟨en,hen,hel,he0⟩: ∃ en:List Int,mk 8 (l.length:Int) 0=some en∧en.length=l.length∧ ∀ j,gz en j=0:=⟨_,mk_of 0 (by omega),by rw [List.length_replicate];omega,fun j=>by unfold gz;rw [List.getElem?_replicate];split<;>rfl⟩
      have hc:=copy_loop l hall hlen l.length 0 (by omega) (by omega)
      rw [List.take_zero] at hc
      have hI:EInv l l.length en:=⟨hel,fun j _=>Or.inl (he0 j),fun j a b=>by omega,fun c x a b hc=>by have:=(List.getElem?_eq_some_iff.1 hc).1;omega⟩
      obtain ⟨en',e1,e2⟩:=end_loop l hL hlen l.length en (Nat.le_refl _) hI
      have hl1:1≤l.length:=by have:=(List.getElem?_eq_some_iff.1 h0).1;omega
      refine ⟨qt.mk l en' v.1,?_,rfl,⟨hL,m1,m2,hall,e2.done hL⟩⟩
      simp only [Bool.not_true,cond_false]
      rw [hen,Option.bind_some,show iter (zaj l) (0,[])=some l from hc,Option.bind_some,qG (by omega),e1,Option.bind_some]
theorem replK_text (old new:Str)(hold:old≠[])(ho: ∀ b∈old,b.toNat<128)(hn:textB new=true): ∀ (k:Nat) (s:Str),textB s=true→textB (replaceK old new k s)=true:=by
  intro k
  induction k with
  |zero=>intro s h;exact h
  |succ k ih=>
    intro s h
    unfold replaceK
    split
    · exact h
    · rename_i hm
      have hge:=Go.Lib.index_ge s old
      have h0:0≤index s old:=by
        have:index s old≠ -1:=by simpa using hm
        omega
      have hc:(cut s old).2.2=true:=by unfold Go.Lib.cut;rw [if_pos h0]
      obtain ⟨t1,t2⟩:=cut_text (q:=old) ho hold h
      have t2:=t2 hc
      have e1:(cut s old).1=s.take (index s old).toNat:=by unfold Go.Lib.cut;rw [if_pos h0]
      have e2:(cut s old).2.1=s.drop ((index s old).toNat+old.length):=by unfold Go.Lib.cut;rw [if_pos h0]
      rw [e1] at t1
      rw [e2] at t2
      have:=ih _ t2
      rw [List.append_assoc,textB_app _ _ _ (Nat.le_refl _) t1,textB_app _ _ _ (Nat.le_refl _) hn]
      exact this
theorem lines_text {s:Str}(h:textB s=true):textB (lines s)=true:=by
  have one: ∀ (old new s:Str),old≠[]→(∀ b∈old,b.toNat<128)→textB new=true→textB s=true→textB (replaceAll s old new)=true:=fun old new s a b c d=>by
    unfold replaceAll Go.Lib.replace
    split
    · exact d
    · exact replK_text old new a b c _ s d
  have t10:textB [10]=true:=by rw [textB_cons 10 [] (by decide)];rfl
  exact one [13] [10] _ (by simp) (by decide) t10 (one [13,10] [10] s (by simp) (by decide) t10 h)
theorem Parse_some (b:Str): ∃ v,Ja b=some v∧((v.1=none∧(v.2=2∨v.2=3))∨(∃ d,v.1=some d∧v.2=0∧DocOk d)):=by
  unfold Ja
  by_cases hb:b.length>65536
  · rw [show decide ((b.length:Int)>65536)=true by rw [decide_eq_true_eq];omega]
    exact ⟨(none,3),rfl,Or.inl ⟨rfl,Or.inr rfl⟩⟩
  · rw [show decide ((b.length:Int)>65536)=false by rw [decide_eq_false_iff_not];omega,Text_eq b (by omega)]
    simp only [cond_false,Option.bind_some]
    cases ht:textB b with
    |false=>exact ⟨(none,2),rfl,Or.inl ⟨rfl,Or.inl rfl⟩⟩
    |true=>
      have hl:=lines_len b
      rw [Lines_eq b (by omega)]
      simp only [Bool.not_true,cond_false,Option.bind_some]
      obtain ⟨v3,d1,d2,d3⟩:=declaration_eq true false [(ze.mk 0 (-1) [] [] [] [] [] [])] [] [] (lines b) (by omega) (lines_text ht)
      rw [d1]
      simp only [Option.bind_some]
      cases h3:v3.1 with
      |false=>exact ⟨(none,2),rfl,Or.inl ⟨rfl,Or.inl rfl⟩⟩
      |true=>
        obtain ⟨l3,t3⟩:=d3 h3
        have hI:Inv 65536 v3.2 [(ze.mk 0 (-1) [] [] [] [] [] [])] [] []:=⟨t3,by simp;omega,by simp,by simp,(fun o ho=>by cases ho),(fun y hy=>by
          obtain rfl:=List.mem_singleton.1 hy
          exact ⟨Nat.zero_le _,Nat.zero_le _,Nat.zero_le _,Nat.zero_le _,Nat.zero_le _,Nat.zero_le _,by simp,by simp⟩),by simp;omega⟩
        obtain ⟨r1,r2⟩:=run_loop (N:=65536) (by omega) (v3.2.length+1) v3.2 true [(ze.mk 0 (-1) [] [] [] [] [] [])] [] [] (by omega) hI
        simp only [Bool.not_true,cond_false]
        rw [r1]
        cases hq:runL (v3.2.length+1) v3.2 true [(ze.mk 0 (-1) [] [] [] [] [] [])] [] [] with
        |none=>exact ⟨(none,2),rfl,Or.inl ⟨rfl,Or.inl rfl⟩⟩
        |some q=>
          obtain ⟨nb',l',p',x',rfl,hI'⟩:=r2 q hq
          simp only [Option.bind_some,Sum.elim_inr]
          by_cases hp:p'=[]
          · subst hp
            simp only [List.length_nil,show decide ((((0:Nat):Int))>0)=false from rfl,cond_false]
            have hl':=hI'.hl
            rcases Of_some l' hI'.hn (by simp at hl';omega) with h|h|⟨d,h,h',hd⟩
            · rw [h];exact ⟨(none,2),rfl,Or.inl ⟨rfl,Or.inl rfl⟩⟩
            · rw [h];exact ⟨(none,3),rfl,Or.inl ⟨rfl,Or.inr rfl⟩⟩
            · rw [h];exact ⟨(some d,0),rfl,Or.inr ⟨d,rfl,rfl,hd⟩⟩
          · have:0<p'.length:=List.length_pos_iff.2 hp
            rw [show decide ((p'.length:Int)>0)=true by rw [decide_eq_true_eq];omega]
            exact ⟨(none,2),rfl,Or.inl ⟨rfl,Or.inl rfl⟩⟩
end G
set_option maxRecDepth 20000
set_option linter.unusedVariables false
set_option linter.unusedSimpArgs false
namespace G
open W
open Go.Lib (decodeL decodeN validD index cut contains replaceK replaceAll)
def targetB:Str→Bool
  |[a,b,c]=>(a.toNat==120||a.toNat==88)&&((b.toNat==109||b.toNat==77)&&(c.toNat==108||c.toNat==76))
  |_=>false
theorem i_n (c:UInt8)(n:Nat):((c.toNat:Int)==(n:Int))=(c.toNat==n):=by
  rw [Bool.eq_iff_iff];simp only [beq_iff_eq];omega
theorem target_eq (s:Str):zae s=some (targetB s):=by
  unfold zae
  by_cases h:s.length=3
  · obtain ⟨a,b,c,rfl⟩: ∃ a b c,s=[a,b,c]:=by
      match s,h with
      |[a,b,c],_=>exact ⟨a,b,c,rfl⟩
    have a0:at' [a,b,c] 0=some a:=rfl
    have a1:at' [a,b,c] 1=some b:=rfl
    have a2:at' [a,b,c] 2=some c:=rfl
    have e1:((a.toNat:Int)==120)=(a.toNat==120):=i_n a 120
    have e2:((a.toNat:Int)==88)=(a.toNat==88):=i_n a 88
    have e3:((b.toNat:Int)==109)=(b.toNat==109):=i_n b 109
    have e4:((b.toNat:Int)==77)=(b.toNat==77):=i_n b 77
    have e5:((c.toNat:Int)==108)=(c.toNat==108):=i_n c 108
    have e6:((c.toNat:Int)==76)=(c.toNat==76):=i_n c 76
    rw [show ((([a,b,c]:Str).length:Int)==3)=true from rfl]
    simp only [cond_true,a0,a1,a2,Option.bind_some,e1,e2,e3,e4,e5,e6,targetB]
    cases a.toNat==120<;>cases a.toNat==88<;>cases b.toNat==109<;>cases b.toNat==77<;>cases c.toNat==108<;>rfl
  · rw [show ((s.length:Int)==3)=false by rw [beq_eq_false_iff_ne];omega]
    have:targetB s=false:=by
      unfold targetB
      split
      · exact absurd rfl h
      · rfl
    rw [this];rfl
def kindAt (l:List ze)(n:Int):Int:=match l[n.toNat]? with
  |some z=>z.Kind
  |none=>0
def blank1:Str→Bool
  |[]=>false
  |c::_=>isB c
def formedB (l:List ze)(n:Nat)(last:Int)(x:ze):Bool:=
  if x.Kind=1 then x.Text==[]&&(declaredB x.Decls&&namedB l n x)
  else bareB x&&(if x.Kind=2 then x.Local==[]&&(!(x.Text==[])&&(textB x.Text&&(decide (last<0)||kindAt l last != 2)))
    else if x.Kind=3 then x.Local==[]&&(textB x.Text&&(!contains x.Text [45,45]&& !(decide ((1:Nat)≤x.Text.length)&&(x.Text.drop (x.Text.length-1)==[45]))))
    else if x.Kind=4 then nameB x.Local&&(!targetB x.Local&&(textB x.Text&&(!contains x.Text [63,62]&& !blank1 x.Text)))
    else false)
theorem formed_eq (l:List ze)(n:Nat)(x:ze)(last:Int)(hn:l[n]? =some x)(hall: ∀ y∈l,okN y)(hp:ParOk l (n+1))(hla:last<(l.length:Int)):zac l (n:Int) last=some (formedB l n last x):=by
  have hx:=hall x (List.mem_of_getElem? hn)
  unfold zac formedB
  rw [Jk,hn]
  simp only [Option.bind_some]
  by_cases k1:x.Kind=1
  · rw [beq_iff_eq.2 k1,if_pos k1]
    simp only [cond_true]
    rw [declared_eq _ hx.2.2.2.2.1 hx.2.2.2.2.2.2.1,dnamed_eq l n x hn hall hp]
    simp only [Option.bind_some]
    cases x.Text==[]<;>cases declaredB x.Decls<;>rfl
  · rw [beq_eq_false_iff_ne.2 k1,if_neg k1]
    simp only [cond_false,bare_eq,Option.bind_some]
    rw [dtext_eq _ hx.2.2.2.1,Q8 _ _ (by have:=hx.2.2.2.1;omega),Q8 _ _ (by have:=hx.2.2.2.1;omega),HasSuffix_eq _ _ hx.2.2.2.1,Is_eq x.Local (by have:=hx.2.1;omega),target_eq]
    simp only [Option.bind_some]
    have hbl:((bif (!(x.Text==[])) then (at' x.Text 0).bind fun v11=>(Qk v11).bind fun v12=>some v12 else some false):Option Bool)=some (blank1 x.Text):=by
      cases x.Text with
      |nil=>rfl
      |cons c r=>
        have a0:at' (c::r) 0=some c:=rfl
        rw [show (!((c::r:Str)==[]))=true from rfl]
        simp only [cond_true,a0,Option.bind_some,Blank_eq];rfl
    rw [hbl]
    have hl:((bif decide (last<0) then some true else (at' l last).bind fun v6=>some (v6.Kind != 2)):Option Bool)=some (decide (last<0)||kindAt l last != 2):=by
      by_cases h0:last<0
      · rw [show decide (last<0)=true by rw [decide_eq_true_eq];exact h0];rfl
      · rw [show decide (last<0)=false by rw [decide_eq_false_iff_not];exact h0]
        obtain ⟨m,rfl⟩: ∃ m:Nat,last=(m:Int):=⟨last.toNat,by omega⟩
        have hm:m<l.length:=by omega
        simp only [cond_false]
        rw [qe hm]
        unfold kindAt
        rw [Int.toNat_natCast,List.getElem?_eq_getElem hm];rfl
    rw [hl]
    by_cases k2:x.Kind=2
    · rw [beq_iff_eq.2 k2,if_pos k2]
      cases bareB x<;>cases x.Local==[]<;>cases x.Text==[]<;>cases textB x.Text<;>rfl
    · rw [beq_eq_false_iff_ne.2 k2,if_neg k2]
      by_cases k3:x.Kind=3
      · rw [beq_iff_eq.2 k3,if_pos k3]
        cases bareB x<;>cases x.Local==[]<;>cases textB x.Text<;>cases contains x.Text [45,45]<;>rfl
      · rw [beq_eq_false_iff_ne.2 k3,if_neg k3]
        by_cases k4:x.Kind=4
        · rw [beq_iff_eq.2 k4,if_pos k4]
          cases bareB x<;>cases nameB x.Local<;>cases targetB x.Local<;>cases textB x.Text<;>cases contains x.Text [63,62]<;>rfl
        · rw [beq_eq_false_iff_ne.2 k4,if_neg k4]
          cases bareB x<;>rfl
def standsF (l:List ze)(px:Int):Nat→Int→Bool
  |0,_=>false
  |k+1,y=>if y<0 then false else match l[y.toNat]? with
    |none=>false
    |some z=>if y=px then z.Kind==0||z.Kind==1 else standsF l px k z.Parent
theorem standsF_loop (l:List ze)(n:Nat)(x r:ze)(hx:l[n]? =some x)(h0:l[0]? =some r)(hr:r.Parent= -1)(hp:ParOk l n): ∀ (k y:Nat),y+1<k→y<n→((iter (ZJ l (n:Int)) (y:Int)).bind (Sum.elim (fun (q6:Bool)=>some q6) (fun (q7:Unit)=>some false)))=some (standsF l x.Parent k (y:Int)):=by
  have hn:n<l.length:=(List.getElem?_eq_some_iff.1 hx).1
  have hat:at' l (n:Int)=some x:=by rw [Jk,hx]
  intro k
  induction k with
  |zero=>intro y h;omega
  |succ k ih=>
    intro y h hy
    have hyl:y<l.length:=by omega
    have e:decide ((y:Int)≥0)=true:=by simp
    have hay:at' l (y:Int)=some l[y]:=qe hyl
    unfold standsF
    rw [if_neg (by omega),Int.toNat_natCast,List.getElem?_eq_getElem hyl]
    dsimp only
    by_cases hq:(y:Int)=x.Parent
    · rw [if_pos hq,zj (q:= .inl (l[y].Kind==0||l[y].Kind==1)) (by
        unfold ZJ
        simp only [e,cond_true,hat,Option.bind_some]
        rw [beq_iff_eq.2 hq]
        simp only [cond_true,hay,Option.bind_some]
        cases l[y].Kind==0<;>rfl)];rfl
    · rw [if_neg hq,zw (s':=l[y].Parent) (by
        unfold ZJ
        simp only [e,cond_true,hat,Option.bind_some]
        rw [beq_eq_false_iff_ne.2 hq]
        simp only [cond_false,hay,Option.bind_some])]
      by_cases y0:y=0
      · subst y0
        have:l[0]=r:=by rw [List.getElem?_eq_getElem hyl] at h0;exact Option.some.inj h0
        rw [this,hr,zj (q:= .inr ()) rfl]
        cases k with
        |zero=>omega
        |succ k=>rfl
      · obtain ⟨p0,p1⟩:=hp y l[y] (by omega) hy (List.getElem?_eq_getElem hyl)
        have hpn:((l[y].Parent.toNat:Nat):Int)=l[y].Parent:=by omega
        have:=ih l[y].Parent.toNat (by omega) (by omega)
        rw [hpn] at this
        exact this
theorem stands_eq2 (l:List ze)(n:Nat)(x r:ze)(hx:l[n]? =some x)(h0:l[0]? =some r)(hr:r.Parent= -1)(hp:ParOk l n)(h1:1≤n)(hn:n<4611686018427387904):zaf l (n:Int)=some (standsF l x.Parent (n+1) ((n-1:Nat):Int)):=by
  unfold zaf
  rw [show w64 ((n:Int)-1)=((n-1:Nat):Int) by rw [qG (by omega)];omega]
  exact standsF_loop l n x r hx h0 hr hp (n+1) (n-1) (by omega) (by omega)
def chkF (l:List ze):Nat→Nat→Int→List Int→Option Int
  |0,_,_,_=>none
  |k+1,n,t,last=>match l[n]? with
    |none=>some t
    |some x=>if standsF l x.Parent (n+1) ((n-1:Nat):Int)&&(formedB l n (gz last x.Parent.toNat) x&&(!(x.Parent==0)|| !(x.Kind==2))) then
        (if x.Parent=0∧x.Kind=1 then (if t>0 then none else chkF l k (n+1) (n:Int) (last.set x.Parent.toNat (n:Int))) else chkF l k (n+1) t (last.set x.Parent.toNat (n:Int)))
      else none
def ansC:Option Int→Unit⊕Int
  |none=> .inl ()
  |some q=> .inr q
theorem chk_loop (l:List ze)(r:ze)(h0:l[0]? =some r)(hr:r.Parent= -1)(hall: ∀ y∈l,okN y)(hlen:l.length<4611686018427387904): ∀ (k n:Nat) (t:Int) (last:List Int),l.length-n<k→1≤n→n≤l.length→ParOk l n→last.length=l.length→(∀ v∈last,v<(n:Int))→
    iter (zB l) (t,((n:Int),last))=some (ansC (chkF l k n t last)):=by
  intro k
  induction k with
  |zero=>intro n t last h1;omega
  |succ k ih=>
    intro n t last h1 h2 h3 hp h5 h6
    unfold chkF
    by_cases hn:n<l.length
    · have e:decide ((n:Int)<(l.length:Int))=true:=by rw [decide_eq_true_eq];omega
      have hx:l[n]? =some l[n]:=List.getElem?_eq_getElem hn
      rw [hx]
      dsimp only
      generalize l[n]=x at hx
      have hat:at' l (n:Int)=some x:=by rw [Jk,hx]
      have s1:=stands_eq2 l n x r hx h0 hr hp h2 (by omega)
      obtain ⟨v,s2,s3⟩:=stands_some l n x r hx h0 hr hp h2 (by omega)
      have hv:v=standsF l x.Parent (n+1) ((n-1:Nat):Int):=by rw [s1] at s2;exact (Option.some.inj s2).symm
      rw [←hv] at s1 ⊢
      cases hvc:v with
      |false=>
        rw [hvc] at s1
        simp only [Bool.false_and]
        refine zj ?_;unfold zB
        simp only [e,cond_true,s1,Option.bind_some,Bool.not_false];rfl
      |true=>
        rw [hvc] at s1
        obtain ⟨p0,p1,p2,p3⟩:=s3 hvc
        have hpn:((x.Parent.toNat:Nat):Int)=x.Parent:=by omega
        have hpl:x.Parent.toNat<last.length:=by omega
        have hla:at' last x.Parent=some (gz last x.Parent.toNat):=by have:=qe hpl;rw [hpn] at this;rw [this,gz_get hpl]
        have hlv:gz last x.Parent.toNat<(n:Int):=by rw [gz_get hpl];exact h6 _ (List.getElem_mem hpl)
        have hp1:ParOk l (n+1):=fun m y a b c=>by
          by_cases hm:m=n
          · subst hm;rw [hx] at c;cases c;exact ⟨p0,p1⟩
          · exact hp m y a (by omega) c
        have f1:=formed_eq l n x (gz last x.Parent.toNat) hx hall hp1 (by omega)
        have hun:doc_under x=some (!(x.Parent==0)|| !(x.Kind==2)):=by
          unfold doc_under
          by_cases hz:x.Parent=0
          · rw [hz];rfl
          · rw [show (x.Parent != 0)=true by simpa using hz,beq_eq_false_iff_ne.2 hz];rfl
        simp only [Bool.true_and]
        cases hf:formedB l n (gz last x.Parent.toNat) x with
        |false=>
          rw [hf] at f1
          refine zj ?_;unfold zB
          simp only [e,cond_true,s1,Option.bind_some,Bool.not_true,cond_false,hat,hla,f1,Bool.not_false];rfl
        |true=>
          rw [hf] at f1
          simp only [Bool.true_and]
          cases hu:(!(x.Parent==0)|| !(x.Kind==2)) with
          |false=>
            rw [hu] at hun
            refine zj ?_;unfold zB
            simp only [e,cond_true,s1,Option.bind_some,Bool.not_true,cond_false,hat,hla,f1,hun,Bool.not_false];rfl
          |true=>
            rw [hu] at hun
            rw [if_pos rfl]
            have hput:put last x.Parent (n:Int)=some (last.set x.Parent.toNat (n:Int)):=by have:=put_of hpl (n:Int);rwa [hpn] at this
            have h5':(last.set x.Parent.toNat (n:Int)).length=l.length:=by rw [List.length_set];exact h5
            have h6': ∀ v∈last.set x.Parent.toNat (n:Int),v<((n+1:Nat):Int):=fun v hv=>by
              rcases List.mem_or_eq_of_mem_set hv with h|h
              · have:=h6 v h;omega
              · omega
            have hw:w64 ((n:Int)+1)=((n+1:Nat):Int):=qc (by omega)
            by_cases hz:x.Parent=0
            · by_cases hk:x.Kind=1
              · rw [if_pos ⟨hz,hk⟩]
                by_cases ht:t>0
                · rw [if_pos ht]
                  refine zj ?_;unfold zB
                  simp only [e,cond_true,s1,Option.bind_some,Bool.not_true,cond_false,hat,hla,f1,hun]
                  rw [beq_iff_eq.2 hz,beq_iff_eq.2 hk,show decide (t>0)=true by rw [decide_eq_true_eq];exact ht];rfl
                · rw [if_neg ht,←ih (n+1) (n:Int) _ (by omega) (by omega) (by omega) hp1 h5' h6']
                  refine zw ?_;unfold zB
                  simp only [e,cond_true,s1,Option.bind_some,Bool.not_true,cond_false,hat,hla,f1,hun]
                  rw [beq_iff_eq.2 hz,beq_iff_eq.2 hk,show decide (t>0)=false by rw [decide_eq_false_iff_not];exact ht]
                  simp only [cond_true,cond_false,hput,Option.bind_some,hw]
              · rw [if_neg (fun h=>hk h.2),←ih (n+1) t _ (by omega) (by omega) (by omega) hp1 h5' h6']
                refine zw ?_;unfold zB
                simp only [e,cond_true,s1,Option.bind_some,Bool.not_true,cond_false,hat,hla,f1,hun]
                rw [beq_iff_eq.2 hz,beq_eq_false_iff_ne.2 hk]
                simp only [cond_true,cond_false,hput,Option.bind_some,hw]
            · rw [if_neg (fun h=>hz h.1),←ih (n+1) t _ (by omega) (by omega) (by omega) hp1 h5' h6']
              refine zw ?_;unfold zB
              simp only [e,cond_true,s1,Option.bind_some,Bool.not_true,cond_false,hat,hla,f1,hun]
              rw [beq_eq_false_iff_ne.2 hz]
              simp only [cond_false,hput,Option.bind_some,hw]
    · obtain rfl:n=l.length:=by omega
      rw [List.getElem?_eq_none (Nat.le_refl _)]
      refine zj ?_;unfold zB
      have e:decide ((l.length:Int)<(l.length:Int))=false:=by simp
      simp only [e,cond_false];rfl
def checkL:List ze→Int×Bool
  |[]=>(0,false)
  |r::l'=>bif rootB r then headV (ansC (chkF (r::l') (l'.length+2) 1 0 (List.replicate (l'.length+1) (-1)))) else (0,false)
theorem all_replicate: ∀ (n:Nat) (d:List Int),d.length=n→(∀ v∈d,v= -1)→d=List.replicate n (-1)
  |0,d,h,_=>List.length_eq_zero_iff.1 h
  |n+1,d,h,hv=>by
    cases d with
    |nil=>cases h
    |cons a d=>
      rw [List.replicate_succ,hv a (by simp),←all_replicate n d (by simpa using h) (fun v hv'=>hv v (by simp [hv']))]
theorem check_eq (l:List ze)(hall: ∀ y∈l,okN y)(hlen:l.length≤1073741824):J2 l=some (checkL l):=by
  cases l with
  |nil=>rfl
  |cons r l'=>
    show _=some (bif rootB r then headV (ansC (chkF (r::l') (l'.length+2) 1 0 (List.replicate (l'.length+1) (-1)))) else (0,false))
    cases hr:rootB r with
    |false=>rw [head_false r l' hr,cond_false]
    |true=>
      have hr':=hr
      simp only [rootB,Bool.and_eq_true,beq_iff_eq] at hr
      obtain ⟨k0,k1,k2,k3,k4⟩:=hr;obtain ⟨v8,hv8,hl8⟩: ∃ v8:List Int,mk 8 (((r::l':List ze).length:Nat):Int) 0=some v8∧v8.length=(r::l').length:=⟨_,mk_of 0 (by omega),by rw [List.length_replicate];omega⟩;obtain ⟨d',f1,f2,f3⟩:=fill_loop v8 (by omega) v8.length 0 v8 (by omega) (by omega) rfl (by simp)
      have hd':=all_replicate (l'.length+1) d' (by rw [f2,hl8];rfl) f3
      have c:=chk_loop (r::l') r rfl k1 hall (by omega) (l'.length+2) 1 0 d' (by simp) (Nat.le_refl _) (by simp) (fun m x a b=>by omega) (by rw [f2,hl8]) (fun v hv=>by rw [f3 v hv];decide)
      rw [head_true r l' hr' v8 d' _ hv8 f1 c,cond_true,hd']
def wiF (l:List ze):Nat→Nat→List Int→Bool
  |0,_,_=>false
  |k+1,i,dp=>match l[i]? with
    |none=>true
    |some x=>if i=0 then (if gz dp 0>64∨x.Decls.length+x.Attrs.length>64 then false else wiF l k (i+1) dp)
      else (if gz dp x.Parent.toNat+1>64∨x.Decls.length+x.Attrs.length>64 then false else wiF l k (i+1) (dp.set i (gz dp x.Parent.toNat+1)))
def ansW:Bool→Unit⊕Unit
  |true=> .inr ()
  |false=> .inl ()
theorem wi_loop (l:List ze)(hlen:l.length≤4000)(hall: ∀ y∈l,okN y)(hp:ParOk l l.length): ∀ (k i:Nat) (dp:List Int),l.length-i<k→i≤l.length→dp.length=l.length→(∀ v∈dp,0≤v∧v≤(i:Int))→iter (zG l) ((i:Int),dp)=some (ansW (wiF l k i dp)):=by
  intro k
  induction k with
  |zero=>intro i dp h;omega
  |succ k ih=>
    intro i dp h1 h2 h3 h4
    unfold wiF
    by_cases hi:i<l.length
    · have e:decide ((i:Int)<(l.length:Int))=true:=by rw [decide_eq_true_eq];omega
      have hid:i<dp.length:=by omega
      have hx:l[i]? =some l[i]:=List.getElem?_eq_getElem hi
      have hat:at' l (i:Int)=some l[i]:=qe hi
      have hok:=hall l[i] (List.getElem_mem hi)
      rw [hx]
      dsimp only
      generalize l[i]=x at hx hat hok
      have hsz:w64 ((x.Decls.length:Int)+(x.Attrs.length:Int))=((x.Decls.length+x.Attrs.length:Nat):Int):=by
        have:=hok.2.2.2.2.1;have:=hok.2.2.2.2.2.1
        rw [qG (by omega)];omega
      have hw:w64 ((i:Int)+1)=((i+1:Nat):Int):=qc (by omega)
      have adi:at' dp (i:Int)=some (gz dp i):=by rw [qe hid,gz_get hid]
      by_cases h0:i=0
      · subst h0
        have e0:decide (((0:Nat):Int)>0)=false:=rfl
        rw [if_pos rfl]
        have st:zG l (((0:Nat):Int),dp)=(bif decide (gz dp 0>64) then some (.inr (.inl ())) else (bif decide (((x.Decls.length+x.Attrs.length:Nat):Int)>64) then some (.inr (.inl ())) else some (.inl (((0+1:Nat):Int),dp)))):=by
          unfold zG
          simp only [e,cond_true,hat,Option.bind_some,e0,cond_false,adi,hsz,hw]
        by_cases c1:gz dp 0>64
        · rw [if_pos (Or.inl c1)]
          rw [show decide (gz dp 0>64)=true by rw [decide_eq_true_eq];exact c1] at st
          exact zj st
        · rw [show decide (gz dp 0>64)=false by rw [decide_eq_false_iff_not];exact c1] at st
          by_cases c2:x.Decls.length+x.Attrs.length>64
          · rw [if_pos (Or.inr c2)]
            rw [show decide (((x.Decls.length+x.Attrs.length:Nat):Int)>64)=true by rw [decide_eq_true_eq];omega] at st
            exact zj st
          · rw [if_neg (by omega)]
            rw [show decide (((x.Decls.length+x.Attrs.length:Nat):Int)>64)=false by rw [decide_eq_false_iff_not];omega] at st
            rw [zw st]
            exact ih (0+1) dp (by omega) (by omega) h3 (fun v hv=>by have:=h4 v hv;omega)
      · have e0:decide ((i:Int)>0)=true:=by rw [decide_eq_true_eq];omega
        obtain ⟨p0,p1⟩:=hp i x (by omega) hi hx
        have hpl:x.Parent.toNat<dp.length:=by omega
        have hpn:((x.Parent.toNat:Nat):Int)=x.Parent:=by omega
        have adp:at' dp x.Parent=some (gz dp x.Parent.toNat):=by have:=qe hpl;rw [hpn] at this;rw [this,gz_get hpl]
        have hv0:0≤gz dp x.Parent.toNat∧gz dp x.Parent.toNat≤(i:Int):=by rw [gz_get hpl];exact h4 _ (List.getElem_mem hpl)
        generalize gz dp x.Parent.toNat=g at adp hv0 ⊢
        have hwp:w64 (g+1)=g+1:=qG (by omega)
        have hput:put dp (i:Int) (g+1)=some (dp.set i (g+1)):=put_of hid _
        have ads:at' (dp.set i (g+1)) (i:Int)=some (g+1):=by
          have:=qe (l:=dp.set i (g+1)) (i:=i) (by rw [List.length_set];exact hid)
          rw [this,List.getElem_set_self]
        rw [if_neg h0]
        have st:zG l ((i:Int),dp)=(bif decide (g+1>64) then some (.inr (.inl ())) else (bif decide (((x.Decls.length+x.Attrs.length:Nat):Int)>64) then some (.inr (.inl ())) else some (.inl (((i+1:Nat):Int),dp.set i (g+1))))):=by
          unfold zG
          simp only [e,cond_true,hat,Option.bind_some,e0,adp,adi,hwp,hput,ads,hsz,hw]
        by_cases c1:g+1>64
        · rw [if_pos (Or.inl c1)]
          rw [show decide (g+1>64)=true by rw [decide_eq_true_eq];exact c1] at st
          exact zj st
        · rw [show decide (g+1>64)=false by rw [decide_eq_false_iff_not];exact c1] at st
          by_cases c2:x.Decls.length+x.Attrs.length>64
          · rw [if_pos (Or.inr c2)]
            rw [show decide (((x.Decls.length+x.Attrs.length:Nat):Int)>64)=true by rw [decide_eq_true_eq];omega] at st
            exact zj st
          · rw [if_neg (by omega)]
            rw [show decide (((x.Decls.length+x.Attrs.length:Nat):Int)>64)=false by rw [decide_eq_false_iff_not];omega] at st
            rw [zw st]
            refine ih (i+1) _ (by omega) (by omega) (by rw [List.length_set];exact h3) (fun v hv=> ?_)
            rcases List.mem_or_eq_of_mem_set hv with h|h
            · have:=h4 v h;omega
            · omega
    · rw [List.getElem?_eq_none (by omega)]
      refine zj ?_;unfold zG
      have e:decide ((i:Int)<(l.length:Int))=false:=by rw [decide_eq_false_iff_not];omega
      simp only [e,cond_false];rfl
def withinL (l:List ze):Bool:=if l.length>4000 then false else wiF l (l.length+1) 0 (List.replicate l.length 0)
theorem within_eq (l:List ze)(hall: ∀ y∈l,okN y)(hp:ParOk l l.length):zad l=some (withinL l):=by
  unfold zad withinL
  by_cases h:l.length>4000
  · rw [show decide ((l.length:Int)>4000)=true by rw [decide_eq_true_eq];omega,if_pos h];rfl
  · rw [show decide ((l.length:Int)>4000)=false by rw [decide_eq_false_iff_not];omega,if_neg h]
    simp only [cond_false]
    have hmk:mk 8 (l.length:Int) (0:Int)=some (List.replicate l.length 0):=by rw [mk_of 0 (by omega),Int.toNat_natCast]
    rw [hmk,Option.bind_some]
    have k1:=wi_loop l (by omega) hall hp (l.length+1) 0 (List.replicate l.length 0) (by omega) (by omega) (by simp) (fun v hv=>by rw [(List.mem_replicate.1 hv).2];decide)
    rw [show iter (zG l) (0,List.replicate l.length 0)=_ from k1,Option.bind_some]
    cases wiF l (l.length+1) 0 (List.replicate l.length 0)<;>rfl
def endF (l:List ze):Nat→List Int→List Int
  |0,en=>en
  |k+1,en=>match l[k]? with
    |none=>en
    |some x=>if x.Parent≥0 then endF l k ((en.set k (mx (gz en k) ((k:Int)+1))).set x.Parent.toNat (mx (gz (en.set k (mx (gz en k) ((k:Int)+1))) x.Parent.toNat) (gz (en.set k (mx (gz en k) ((k:Int)+1))) k))) else endF l k (en.set k (mx (gz en k) ((k:Int)+1)))
theorem endF_loop (l:List ze){t:Int}(hL:ListOk l t)(hlen:l.length≤1073741824): ∀ (k:Nat) (en:List Int),k≤l.length→en.length=l.length→iter (zam l) ((k:Int)-1,en)=some (endF l k en):=by
  intro k
  induction k with
  |zero=>intro en h1 h2;exact zj rfl
  |succ k ih=>
    intro en h1 h2
    rw [show (((k+1:Nat):Int)-1)=(k:Int) by omega]
    have hk:k<l.length:=by omega
    have hke:k<en.length:=by omega
    have e:decide ((k:Int)≥0)=true:=by simp
    have hx:l[k]? =some l[k]:=List.getElem?_eq_getElem hk
    have hat:at' l (k:Int)=some l[k]:=qe hk
    unfold endF
    rw [hx]
    dsimp only
    generalize l[k]=x at hx hat
    have ake:at' en (k:Int)=some (gz en k):=by rw [qe hke,gz_get hke]
    have pke: ∀ v,put en (k:Int) v=some (en.set k v):=fun v=>put_of hke v
    have hwk:w64 ((k:Int)-1)=(k:Int)-1:=qG (by omega)
    have hwk1:w64 ((k:Int)+1)=(k:Int)+1:=qG (by omega)
    by_cases hpar:x.Parent≥0
    · have hkp:0<k:=by
        rcases Nat.eq_zero_or_pos k with h|h
        · subst h
          obtain ⟨r',r1,_,r2,_⟩:=hL.root
          rw [r1] at hx;cases hx;omega
        · exact h
      obtain ⟨p0,p1⟩:=(hL.node k x hkp hk hx).par
      have hpn:((x.Parent.toNat:Nat):Int)=x.Parent:=by omega
      have hEl:(en.set k (mx (gz en k) ((k:Int)+1))).length=l.length:=by rw [List.length_set];exact h2
      rw [if_pos hpar,←ih _ (by omega) (by rw [List.length_set];exact hEl)]
      refine zw ?_;unfold zam
      simp only [e,cond_true,ake,Option.bind_some,pke,hat,hwk1]
      rw [show decide (x.Parent≥0)=true by rw [decide_eq_true_eq];exact hpar]
      generalize en.set k (mx (gz en k) ((k:Int)+1))=E at hEl ⊢
      have hpl:x.Parent.toNat<E.length:=by omega
      have hkl:k<E.length:=by omega
      have a1:at' E x.Parent=some (gz E x.Parent.toNat):=by have:=qe hpl;rw [hpn] at this;rw [this,gz_get hpl]
      have a2:at' E (k:Int)=some (gz E k):=by rw [qe hkl,gz_get hkl]
      have p1': ∀ v,put E x.Parent v=some (E.set x.Parent.toNat v):=fun v=>by have:=put_of hpl v;rwa [hpn] at this
      simp only [cond_true,a1,a2,p1',Option.bind_some,hwk]
    · rw [if_neg hpar,←ih _ (by omega) (by rw [List.length_set];exact h2)]
      refine zw ?_;unfold zam
      simp only [e,cond_true,ake,Option.bind_some,pke,hat,hwk1]
      rw [show decide (x.Parent≥0)=false by rw [decide_eq_false_iff_not];exact hpar]
      simp only [cond_false,hwk]
def ofL (l:List ze):Option qt×Int:=bif !(checkL l).2 then (none,2) else bif !withinL l then (none,3) else (some (qt.mk l (endF l l.length (List.replicate l.length 0)) (checkL l).1),0)
theorem Of_eq (l:List ze)(hall: ∀ y∈l,okN y)(hlen:l.length≤1073741824):doc_Of l=some (ofL l):=by
  obtain ⟨v,c1,c2⟩:=check_some l hall hlen
  have c3:=check_eq l hall hlen
  have hv:v=checkL l:=by rw [c1] at c3;exact Option.some.inj c3
  unfold doc_Of ofL
  rw [c3,Option.bind_some]
  cases h:(checkL l).2 with
  |false=>rfl
  |true=>
    have hL:=c2 (by rw [hv];exact h)
    rw [hv] at hL
    have hp:ParOk l l.length:=fun m x a b c=>(hL.node m x a b c).par
    simp only [Bool.not_true,cond_false]
    rw [within_eq l hall hp,Option.bind_some]
    cases hw:withinL l with
    |false=>rfl
    |true=>
      have hl1:1≤l.length:=by
        obtain ⟨r,h0,_⟩:=hL.root
        have:=(List.getElem?_eq_some_iff.1 h0).1;omega
      have hmk:mk 8 (l.length:Int) (0:Int)=some (List.replicate l.length 0):=by rw [mk_of 0 (by omega),Int.toNat_natCast]
      have hc:=copy_loop l hall hlen l.length 0 (by omega) (by omega)
      rw [List.take_zero] at hc
      simp only [Bool.not_true,cond_false]
      rw [hmk,Option.bind_some,show iter (zaj l) (0,[])=some l from hc,Option.bind_some,qG (by omega),endF_loop l hL hlen l.length _ (Nat.le_refl _) (by simp),Option.bind_some]
def rootN:ze:=ze.mk 0 (-1) [] [] [] [] [] []
def parseL (b:Str):Option qt×Int:=
  if b.length>65536 then (none,3) else bif !textB b then (none,2) else bif !(declL (lines b)).1 then (none,2) else
    match runL ((declL (lines b)).2.length+1) (declL (lines b)).2 true [rootN] [] [] with
    |none=>(none,2)
    |some q=>if q.2.2.2.1=[] then ofL q.2.2.1 else (none,2)
theorem Parse_eq (b:Str):Ja b=some (parseL b):=by
  unfold Ja parseL
  by_cases hb:b.length>65536
  · rw [show decide ((b.length:Int)>65536)=true by rw [decide_eq_true_eq];omega,if_pos hb];rfl
  · rw [show decide ((b.length:Int)>65536)=false by rw [decide_eq_false_iff_not];omega,Text_eq b (by omega),if_neg hb]
    simp only [cond_false,Option.bind_some]
    cases ht:textB b with
    |false=>rfl
    |true=>
      have hl:=lines_len b
      rw [Lines_eq b (by omega)]
      simp only [Bool.not_true,cond_false,Option.bind_some]
      obtain ⟨v3,d1,d2,d3⟩:=declaration_eq true false [(ze.mk 0 (-1) [] [] [] [] [] [])] [] [] (lines b) (by omega) (lines_text ht)
      rw [d1,←d2]
      simp only [Option.bind_some]
      cases h3:v3.1 with
      |false=>rfl
      |true=>
        obtain ⟨l3,t3⟩:=d3 h3
        have hI:Inv 65536 v3.2 [(ze.mk 0 (-1) [] [] [] [] [] [])] [] []:=⟨t3,by simp;omega,by simp,by simp,(fun o ho=>by cases ho),(fun y hy=>by
          obtain rfl:=List.mem_singleton.1 hy
          exact ⟨Nat.zero_le _,Nat.zero_le _,Nat.zero_le _,Nat.zero_le _,Nat.zero_le _,Nat.zero_le _,by simp,by simp⟩),by simp;omega⟩
        obtain ⟨r1,r2⟩:=run_loop (N:=65536) (by omega) (v3.2.length+1) v3.2 true [(ze.mk 0 (-1) [] [] [] [] [] [])] [] [] (by omega) hI
        simp only [Bool.not_true,cond_false]
        rw [r1]
        show _=some (match runL (v3.2.length+1) v3.2 true [(ze.mk 0 (-1) [] [] [] [] [] [])] [] [] with|none=>(none,2)|some q=>if q.2.2.2.1=[] then ofL q.2.2.1 else (none,2))
        cases hq:runL (v3.2.length+1) v3.2 true [(ze.mk 0 (-1) [] [] [] [] [] [])] [] [] with
        |none=>rfl
        |some q=>
          obtain ⟨nb',l',p',x',rfl,hI'⟩:=r2 q hq
          simp only [Option.bind_some,Sum.elim_inr]
          by_cases hp:p'=[]
          · subst hp
            rw [if_pos rfl]
            simp only [List.length_nil,show decide ((((0:Nat):Int))>0)=false from rfl,cond_false]
            have hl':=hI'.hl
            rw [Of_eq l' hI'.hn (by simp at hl';omega)];rfl
          · have:0<p'.length:=List.length_pos_iff.2 hp
            rw [if_neg hp,show decide ((p'.length:Int)>0)=true by rw [decide_eq_true_eq];omega];rfl
end G
set_option maxRecDepth 20000
set_option linter.unusedVariables false
namespace G
open W
def dA:qt:=qt.mk [rootN,ze.mk 1 0 [] [97] [] [] [] [zN.mk [] [98] [] [49]]] [2,2] 1
theorem parseA:parseL [60,97,32,98,61,39,49,39,47,62]=(some dA,0):=by kernel_rfl
theorem allPA:point_All_e (some dA)=some [zK.mk 0 0 0,zK.mk 1 0 0,zK.mk 1 1 0,zK.mk 1 2 0]:=by kernel_rfl
theorem textPA:point_Text_e (some dA) (zK.mk 1 2 0)=some [49]:=by kernel_rfl
theorem awake10:Zi=some true:=by
  unfold Zi
  rw [Parse_eq,parseA,Option.bind_some]
  dsimp only
  rw [point_All_le _ _ allPA,point_Text_le _ _ _ textPA]
  rfl
end G
set_option maxRecDepth 20000
set_option linter.unusedVariables false
set_option linter.unusedSimpArgs false
namespace G
open W
section
variable {d:qt} (hd:DocOk d)
theorem Len_eq (d:qt):Qy (some d)=some (d.l.length:Int):=rfl
theorem has_eq (d:qt)(n:Int):Qa (some d) n=some (decide (0≤n∧n<(d.l.length:Int))):=by
  unfold Qa
  rw [Len_eq]
  by_cases h:n≥0
  · rw [show decide (n≥0)=true by rw [decide_eq_true_eq];exact h]
    simp only [cond_true,Option.bind_some]
    congr 1
    rw [Bool.eq_iff_iff];simp only [decide_eq_true_eq];omega
  · rw [show decide (n≥0)=false by rw [decide_eq_false_iff_not];exact h]
    simp only [cond_false]
    congr 1
    rw [Bool.eq_iff_iff];simp only [decide_eq_true_eq];simp;omega
theorem has_in {d:qt}{m:Nat}(h:m<d.l.length):Qa (some d) (m:Int)=some true:=by
  rw [has_eq];congr 1;rw [decide_eq_true_eq];omega
include hd in
theorem Node_in {m:Nat}{x:ze}(hx:d.l[m]? =some x):qb (some d) (m:Int)=some x:=by
  unfold qb
  have hm:=(List.getElem?_eq_some_iff.1 hx).1
  rw [has_in hm]
  simp only [Option.bind_some,Bool.not_true,cond_false]
  rw [Jk,hx]
  simp only [Option.bind_some]
  rw [cloneD_eq x (hd.size x (List.mem_of_getElem? hx))];rfl
def endN (d:qt)(m:Nat):Nat:=(gz d.end_ m).toNat
include hd in
theorem Qw {m:Nat}(hm:m<d.l.length):d.end_[m]? =some (endN d m:Int)∧m<endN d m∧endN d m≤d.l.length∧ ∀ i,m≤i→i<d.l.length→(i<endN d m↔Anc d.l i m):=by
  obtain ⟨e,h1,h2,h3,h4⟩:=hd.ends.2 m hm
  have:endN d m=e:=by unfold endN gz;rw [h1];simp
  rw [this]
  exact ⟨h1,h2,h3,h4⟩
include hd in
theorem End_in {m:Nat}(hm:m<d.l.length):zao (some d) (m:Int)=some (endN d m:Int):=by
  unfold zao
  rw [has_in hm]
  simp only [Option.bind_some,Bool.not_true,cond_false]
  rw [Jk,(Qw hd hm).1];rfl
include hd in
theorem end_nest {n m:Nat}(hn:n<d.l.length)(h1:n≤m)(h2:m<endN d n):endN d m≤endN d n:=by
  obtain ⟨_,a1,a2,a3⟩:=Qw hd hn
  have hm:m<d.l.length:=by omega
  obtain ⟨_,b1,b2,b3⟩:=Qw hd hm
  have k1:=(b3 (endN d m-1) (by omega) (by omega)).1 (by omega)
  have k2:=(a3 m h1 hm).1 h2
  have:=(a3 (endN d m-1) (by omega) (by omega)).2 (k1.trans k2)
  omega
include hd in
theorem end_leaf {m:Nat}{x:ze}(hx:d.l[m]? =some x)(h0:x.Kind≠0)(h1:x.Kind≠1):endN d m=m+1:=by
  have hm:=(List.getElem?_eq_some_iff.1 hx).1
  obtain ⟨_,b1,b2,b3⟩:=Qw hd hm;apply Classical.byContradiction
  intro hne
  have hlt:m+1<endN d m:=by omega
  have ha:=(b3 (m+1) (by omega) (by omega)).1 hlt
  obtain ⟨z,z1,z2,z3⟩:=ha.up (by omega)
  have hz:=hd.list.node (m+1) z (by omega) (by omega) z1
  have hp:ParOk d.l d.l.length:=fun m x a b c=>(hd.list.node m x a b c).par
  have hr0: ∀ r,d.l[0]? =some r→r.Parent= -1:=fun r hr=>by
    obtain ⟨r',r1,_,r2,_⟩:=hd.list.root
    rw [r1] at hr;cases hr;exact r2
  have hle:=z3.le hp hr0
  have hpar:=hz.par
  have:z.Parent.toNat=m:=by omega
  obtain ⟨w,w1,w2⟩:=hz.pk
  rw [this,hx] at w1
  cases w1
  rcases w2 with w2|w2
  · exact h0 w2
  · exact h1 w2
def kidsF (d:qt)(e:Nat):Nat→Nat→List Int
  |0,_=>[]
  |f+1,m=>if m<e then (m:Int)::kidsF d e f (endN d m) else []
theorem kidsF_len (d:qt)(e:Nat): ∀ (f m:Nat),(kidsF d e f m).length≤f
  |0,_=>Nat.le_refl _
  |f+1,m=>by
    unfold kidsF
    split
    · rw [List.length_cons];have:=kidsF_len d e f (endN d m);omega
    · exact Nat.zero_le _
include hd in
theorem kids_loop {n:Nat}(hn:n<d.l.length): ∀ (f m:Nat) (out:List Int),endN d n-m<f→n<m→out.length≤m→iter (Jp (some d) (n:Int)) ((m:Int),out)=some (out++kidsF d (endN d n) f m):=by
  obtain ⟨ha,a1,a2,a3⟩:=Qw hd hn
  have hmany:=hd.many
  intro f
  induction f with
  |zero=>intro m out h;omega
  |succ f ih=>
    intro m out h1 h2 h3
    have an:at' d.end_ (n:Int)=some (endN d n:Int):=by rw [Jk,ha]
    unfold kidsF
    by_cases hm:m<endN d n
    · have hml:m<d.l.length:=by omega
      obtain ⟨hb,b1,b2,b3⟩:=Qw hd hml
      have am:at' d.end_ (m:Int)=some (endN d m:Int):=by rw [Jk,hb]
      have k:=ih (endN d m) (out++[(m:Int)]) (by omega) (by omega) (by simp;omega)
      rw [if_pos hm,show out++(m:Int)::kidsF d (endN d n) f (endN d m)=out++[(m:Int)]++kidsF d (endN d n) f (endN d m) by simp,←k]
      refine zw ?_;unfold Jp
      simp only [Option.bind_some,an]
      rw [show decide ((m:Int)<(endN d n:Int))=true by rw [decide_eq_true_eq];omega]
      simp only [cond_true]
      rw [Q1 (by simp;omega)]
      simp only [Option.bind_some,am]
    · rw [if_neg hm,List.append_nil]
      refine zj ?_;unfold Jp
      simp only [Option.bind_some,an]
      rw [show decide ((m:Int)<(endN d n:Int))=false by rw [decide_eq_false_iff_not];omega]
      simp only [cond_false]
include hd in
theorem Kids_in {n:Nat}(hn:n<d.l.length):doc_Doc_Kids (some d) (n:Int)=some (kidsF d (endN d n) (d.l.length+1) (n+1)):=by
  have hmany:=hd.many
  have a2:=(Qw hd hn).2.2.1
  unfold doc_Doc_Kids
  rw [has_in hn]
  simp only [Option.bind_some,Bool.not_true,cond_false]
  rw [qc (by omega),kids_loop hd hn (d.l.length+1) (n+1) [] (by omega) (by omega) (by simp)]
  simp
def txt1 (l:List ze)(i:Nat):Str:=match l[i]? with
  |some x=>if x.Kind=2 then x.Text else []
  |none=>[]
def tx (l:List ze)(a b:Nat):Str:=(List.range' a (b-a)).flatMap (txt1 l)
theorem tx_split (l:List ze){a b c:Nat}(h1:a≤b)(h2:b≤c):tx l a c=tx l a b++tx l b c:=by
  unfold tx
  have:List.range' a (c-a)=List.range' a (b-a)++List.range' b (c-b):=by
    have e:=List.range'_append (s:=a) (m:=b-a) (n:=c-b) (step:=1)
    rw [show a+1*(b-a)=b by omega,show b-a+(c-b)=c-a by omega] at e
    exact e.symm
  rw [this,List.flatMap_append]
theorem tx_one (l:List ze)(a:Nat):tx l a (a+1)=txt1 l a:=by
  unfold tx
  rw [show a+1-a=1 by omega]
  simp [List.range'_succ]
theorem tx_nil (l:List ze)(a:Nat):tx l a a=[]:=by unfold tx;rw [Nat.sub_self];rfl
include hd in
theorem text_loop (p:zK){n:Nat}(hp:p.N=(n:Int))(hn:n<d.l.length): ∀ (f i:Nat) (nb:Bool) (buf:Str),endN d n-i≤f→i≤endN d n→buf.length≤i*1048576→ ∃ nb',iter (ZK (some d) p) ((i:Int),nb,buf)=some (nb',buf++tx d.l i (endN d n))∧(buf++tx d.l i (endN d n)).length≤4000*1048576:=by
  have a2:=(Qw hd hn).2.2.1
  have hmany:=hd.many
  have hend:zao (some d) p.N=some (endN d n:Int):=by rw [hp];exact End_in hd hn
  intro f
  induction f with
  |zero=>
    intro i nb buf h1 h2 h3
    obtain rfl:i=endN d n:=by omega
    refine ⟨nb,zj ?_,?_⟩
    · unfold ZK
      rw [hend]
      simp only [Option.bind_some]
      rw [show decide (((endN d n:Nat):Int)<(endN d n:Int))=false by simp,tx_nil,List.append_nil];rfl
    · rw [tx_nil,List.append_nil]
      exact Nat.le_trans h3 (Nat.mul_le_mul_right _ (by omega))
  |succ f ih=>
    intro i nb buf h1 h2 h3
    by_cases hi:i<endN d n
    · have hil:i<d.l.length:=by omega
      have hx:d.l[i]? =some d.l[i]:=List.getElem?_eq_getElem hil
      generalize d.l[i]=x at hx
      have hno:=Node_in hd hx
      have hsz:=(hd.size x (List.mem_of_getElem? hx)).2.2.2.1
      have hw:w64 ((i:Int)+1)=((i+1:Nat):Int):=qc (by omega)
      have hmul:i*1048576≤4000*1048576:=Nat.mul_le_mul_right _ (by omega)
      rw [tx_split d.l (show i≤i+1 by omega) (show i+1≤endN d n by omega),tx_one]
      by_cases hk:x.Kind=2
      · have ht:txt1 d.l i=x.Text:=by unfold txt1;rw [hx];dsimp only;rw [if_pos hk]
        obtain ⟨nb',k1,k2⟩:=ih (i+1) false (buf++x.Text) (by omega) (by omega) (by rw [List.length_append];omega)
        rw [ht,←List.append_assoc]
        refine ⟨nb',?_,k2⟩
        rw [←k1]
        refine zw ?_;unfold ZK
        rw [hend]
        simp only [Option.bind_some]
        rw [show decide ((i:Int)<(endN d n:Int))=true by rw [decide_eq_true_eq];omega]
        simp only [cond_true,hno,Option.bind_some]
        rw [beq_iff_eq.2 hk]
        simp only [cond_true]
        rw [write_eq _ _ _ (by omega)]
        simp only [Option.bind_some,hw]
      · have ht:txt1 d.l i=[]:=by unfold txt1;rw [hx];dsimp only;rw [if_neg hk]
        obtain ⟨nb',k1,k2⟩:=ih (i+1) nb buf (by omega) (by omega) (Nat.le_trans h3 (Nat.mul_le_mul_right _ (Nat.le_succ i)))
        rw [ht,List.nil_append]
        refine ⟨nb',?_,k2⟩
        rw [←k1]
        refine zw ?_;unfold ZK
        rw [hend]
        simp only [Option.bind_some]
        rw [show decide ((i:Int)<(endN d n:Int))=true by rw [decide_eq_true_eq];omega]
        simp only [cond_true,hno,Option.bind_some]
        rw [beq_eq_false_iff_ne.2 hk]
        simp only [cond_false,hw]
    · obtain rfl:i=endN d n:=by omega
      refine ⟨nb,zj ?_,?_⟩
      · unfold ZK
        rw [hend]
        simp only [Option.bind_some]
        rw [show decide (((endN d n:Nat):Int)<(endN d n:Int))=false by simp,tx_nil,List.append_nil];rfl
      · rw [tx_nil,List.append_nil]
        exact Nat.le_trans h3 (Nat.mul_le_mul_right _ (by omega))
theorem HasSelf {d:qt}{n:Nat}(hn:n<d.l.length):point_Has (some d) (zK.mk (n:Int) 0 0)=some true:=by
  unfold point_Has
  rw [Len_eq]
  simp only [Option.bind_some]
  rw [show decide ((n:Int)<0)=false by rw [decide_eq_false_iff_not];omega,show decide ((n:Int)≥(d.l.length:Int))=false by rw [decide_eq_false_iff_not];omega];rfl
def textN (d:qt)(n:Nat)(x:ze):Str:=if x.Kind=0∨x.Kind=1 then tx d.l n (endN d n) else x.Text
include hd in
theorem Text_self {n:Nat}{x:ze}(hx:d.l[n]? =some x):QK (some d) (zK.mk (n:Int) 0 0)=some (textN d n x):=by
  have hn:=(List.getElem?_eq_some_iff.1 hx).1
  unfold QK textN
  rw [HasSelf hn]
  simp only [Option.bind_some,Bool.not_true,cond_false]
  rw [Node_in hd hx]
  simp only [Option.bind_some]
  rw [show ((0:Int)==1)=false from rfl,show ((0:Int)==2)=false from rfl]
  simp only [cond_false]
  have loop: ∃ s,((iter (ZK (some d) (zK.mk (n:Int) 0 0)) ((n:Int),true,[])).bind (fun (q12:Bool×(List UInt8))=>(zv q12.1 q12.2).bind fun v13=>some v13))=some s∧s=tx d.l n (endN d n):=by
    obtain ⟨nb',k1,k2⟩:=text_loop hd (zK.mk (n:Int) 0 0) rfl hn (endN d n) n true [] (by omega) (by have:=(Qw hd hn).2.1;omega) (by simp)
    rw [k1]
    simp only [Option.bind_some]
    rw [string_eq _ _ (by omega)]
    exact ⟨_,rfl,by simp⟩
  by_cases h0:x.Kind=0
  · rw [show (x.Kind != 0)=false by simpa using h0,if_pos (Or.inl h0)]
    obtain ⟨s,k1,rfl⟩:=loop
    simp only [cond_false,Option.bind_some,Sum.elim_inr]
    exact k1
  · rw [show (x.Kind != 0)=true by simpa using h0]
    by_cases h1:x.Kind=1
    · rw [show (x.Kind != 1)=false by simpa using h1,if_pos (Or.inr h1)]
      obtain ⟨s,k1,rfl⟩:=loop
      simp only [cond_true,cond_false,Option.bind_some,Sum.elim_inr]
      exact k1
    · rw [show (x.Kind != 1)=true by simpa using h1,if_neg (by omega)];rfl
def kidsT (d:qt)(ks:List Int):Str:=ks.flatMap fun k=>match d.l[k.toNat]? with
  |some x=>if x.Kind=1∨x.Kind=2 then textN d k.toNat x else []
  |none=>[]
include hd in
theorem kids_text {n:Nat}(hn:n<d.l.length): ∀ (f m:Nat),endN d n-m<f→n<m→m≤endN d n→kidsT d (kidsF d (endN d n) f m)=tx d.l m (endN d n):=by
  obtain ⟨ha,a1,a2,a3⟩:=Qw hd hn
  intro f
  induction f with
  |zero=>intro m h;omega
  |succ f ih=>
    intro m h1 h2 h3
    unfold kidsF
    by_cases hm:m<endN d n
    · have hml:m<d.l.length:=by omega
      obtain ⟨hb,b1,b2,b3⟩:=Qw hd hml
      have hne:=end_nest hd hn (by omega) hm
      have hx:d.l[m]? =some d.l[m]:=List.getElem?_eq_getElem hml
      generalize d.l[m]=x at hx
      have hnode:=hd.list.node m x (by omega) hml hx
      rw [if_pos hm,tx_split d.l (show m≤endN d m by omega) hne,←ih (endN d m) (by omega) (by omega) hne]
      unfold kidsT
      rw [List.flatMap_cons]
      congr 1
      rw [Int.toNat_natCast,hx]
      dsimp only
      unfold textN
      rcases hnode.kind with hk|hk|hk|hk
      · rw [if_pos (Or.inl hk),if_pos (Or.inr hk)]
      · rw [if_pos (Or.inr hk),if_neg (by omega),end_leaf hd hx (by omega) (by omega),tx_one]
        unfold txt1;rw [hx];dsimp only;rw [if_pos hk]
      · rw [if_neg (by omega),end_leaf hd hx (by omega) (by omega),tx_one]
        unfold txt1;rw [hx];dsimp only;rw [if_neg (by omega)]
      · rw [if_neg (by omega),end_leaf hd hx (by omega) (by omega),tx_one]
        unfold txt1;rw [hx];dsimp only;rw [if_neg (by omega)]
    · rw [if_neg hm]
      obtain rfl:m=endN d n:=by omega
      rw [tx_nil];rfl
include hd in
theorem text_kids {n:Nat}{x:ze}(hx:d.l[n]? =some x)(hk:x.Kind=0∨x.Kind=1):textN d n x=kidsT d (kidsF d (endN d n) (d.l.length+1) (n+1)):=by
  have hn:=(List.getElem?_eq_some_iff.1 hx).1
  obtain ⟨ha,a1,a2,a3⟩:=Qw hd hn
  rw [kids_text hd hn (d.l.length+1) (n+1) (by omega) (by omega) (by omega)]
  unfold textN
  rw [if_pos hk,tx_split d.l (show n≤n+1 by omega) (show n+1≤endN d n by omega),tx_one]
  unfold txt1
  rw [hx];dsimp only
  rw [if_neg (by omega),List.nil_append]
end
end G
set_option maxRecDepth 20000
set_option linter.unusedVariables false
set_option linter.unusedSimpArgs false
namespace G
open W
section
variable {d:qt} (hd:DocOk d)
include hd in
theorem kidsT_len {n:Nat}{x:ze}(hx:d.l[n]? =some x)(hk:x.Kind=0∨x.Kind=1):(textN d n x).length≤4000*1048576:=by
  have hn:=(List.getElem?_eq_some_iff.1 hx).1
  obtain ⟨ha,a1,a2,a3⟩:=Qw hd hn;obtain ⟨_,_,h⟩:=text_loop hd (zK.mk (n:Int) 0 0) rfl hn (endN d n-n) n true [] (Nat.le_refl _) (by omega) (by simp);unfold textN
  rw [if_pos hk]
  simpa using h
theorem kidsF_mem (d:qt)(e:Nat)(he:e≤d.l.length): ∀ (f m:Nat) (k:Int),k∈kidsF d e f m→ ∃ j:Nat,k=(j:Int)∧j<d.l.length
  |0,_,_,h=>by unfold kidsF at h;cases h
  |f+1,m,k,h=>by
    unfold kidsF at h
    split at h
    · rcases List.mem_cons.1 h with h|h
      · exact ⟨m,h,by omega⟩
      · exact kidsF_mem d e he f _ k h
    · cases h
include hd in
theorem texts_loop (ks:List Int)(hk: ∀ k∈ks,∃ j:Nat,k=(j:Int)∧j<d.l.length)(hlen:ks.length≤1000000)(hL:(kidsT d ks).length≤4000*1048576): ∀ (c i:Nat),ks.length-i≤c→i≤ks.length→
    iter (zR (some d,0) ks) (kidsT d (ks.take i),(i:Int))=some (kidsT d ks):=by
  intro c
  induction c with
  |zero=>
    intro i h1 h2
    obtain rfl:i=ks.length:=by omega
    refine zj ?_;unfold zR
    simp only
    rw [show decide ((ks.length:Int)<(ks.length:Int))=false by simp,List.take_length]
    rfl
  |succ c ih=>
    intro i h1 h2
    by_cases hi:i<ks.length
    · obtain ⟨j,hj,hjl⟩:=hk ks[i] (List.getElem_mem hi)
      have hx:d.l[j]? =some d.l[j]:=List.getElem?_eq_getElem hjl
      generalize d.l[j]=x at hx
      have hat:at' ks (i:Int)=some (j:Int):=by rw [qe hi,hj]
      have e:decide ((i:Int)<(ks.length:Int))=true:=by rw [decide_eq_true_eq];omega
      have hw:w64 ((i:Int)+1)=((i+1:Nat):Int):=qc (by omega)
      have htake:ks.take (i+1)=ks.take i++[(j:Int)]:=by rw [List.take_add_one,List.getElem?_eq_getElem hi,hj];rfl
      have hkt:kidsT d (ks.take (i+1))=kidsT d (ks.take i)++(if x.Kind=1∨x.Kind=2 then textN d j x else []):=by
        rw [htake]
        unfold kidsT
        rw [List.flatMap_append]
        congr 1
        rw [List.flatMap_cons,List.flatMap_nil,List.append_nil,Int.toNat_natCast,hx]
      have hle:(kidsT d (ks.take (i+1))).length≤4000*1048576:=by
        refine Nat.le_trans ?_ hL
        conv=>rhs;rw [←List.take_append_drop (i+1) ks]
        unfold kidsT
        rw [List.flatMap_append,List.length_append];omega
      rw [←ih (i+1) (by omega) (by omega)]
      refine zw ?_;unfold zR
      simp only [e,cond_true,hat,Option.bind_some]
      rw [Node_in hd hx]
      simp only [Option.bind_some]
      by_cases c1:x.Kind=1
      · rw [if_pos (Or.inl c1)] at hkt
        rw [hkt,List.length_append] at hle
        rw [beq_iff_eq.2 c1,Text_self hd hx]
        simp only [cond_true,Option.bind_some]
        rw [cat_of (by omega)]
        simp only [Option.bind_some,hw,hkt]
      · rw [beq_eq_false_iff_ne.2 c1]
        by_cases c2:x.Kind=2
        · rw [if_pos (Or.inr c2)] at hkt
          rw [hkt,List.length_append] at hle
          rw [beq_iff_eq.2 c2,Text_self hd hx]
          simp only [cond_true,cond_false,Option.bind_some]
          rw [cat_of (by omega)]
          simp only [Option.bind_some,hw,hkt]
        · rw [if_neg (by omega),List.append_nil] at hkt
          rw [beq_eq_false_iff_ne.2 c2]
          simp only [cond_false,hw,hkt]
    · obtain rfl:i=ks.length:=by omega
      refine zj ?_;unfold zR
      simp only
      rw [show decide ((ks.length:Int)<(ks.length:Int))=false by simp,List.take_length]
      rfl
end
theorem pointTexts_plain (b:List UInt8)(n:Int):ZA b n=some true:=by
  unfold ZA
  rw [awake10]
  simp only [Option.bind_some,Bool.not_true,cond_false]
  by_cases hb:(b.length:Int)>1000
  · rw [show decide ((b.length:Int)>1000)=true by rw [decide_eq_true_eq];exact hb];rfl
  · rw [show decide ((b.length:Int)>1000)=false by rw [decide_eq_false_iff_not];exact hb]
    simp only [cond_false]
    obtain ⟨v,hv,h⟩:=Parse_some b
    rw [hv]
    simp only [Option.bind_some]
    obtain ⟨v1,v2⟩:=v
    rcases h with ⟨h1,h2⟩|⟨d,h1,h2,hd⟩
    · dsimp only at h1 h2
      subst h1
      rcases h2 with h2|h2<;>subst h2<;>rfl
    · dsimp only at h1 h2
      subst h1 h2
      rw [show (((0:Int) != 0))=false from rfl]
      simp only [cond_false,Len_eq,Option.bind_some]
      by_cases h0:n<0
      · rw [show decide (n<0)=true by rw [decide_eq_true_eq];exact h0];rfl
      · obtain ⟨m,rfl⟩: ∃ m:Nat,n=(m:Int):=⟨n.toNat,by omega⟩
        rw [show decide ((m:Int)<0)=false by rw [decide_eq_false_iff_not];exact h0]
        simp only [cond_false]
        by_cases hm:m<d.l.length
        · rw [show decide ((m:Int)≥(d.l.length:Int))=false by rw [decide_eq_false_iff_not];omega]
          have hx:d.l[m]? =some d.l[m]:=List.getElem?_eq_getElem hm
          generalize d.l[m]=x at hx
          simp only [cond_false,Node_in hd hx,Option.bind_some]
          by_cases hk:x.Kind>1
          · rw [show decide (x.Kind>1)=true by rw [decide_eq_true_eq];exact hk];rfl
          · rw [show decide (x.Kind>1)=false by rw [decide_eq_false_iff_not];exact hk]
            have hk2:x.Kind=0∨x.Kind=1:=by
              by_cases hm0:m=0
              · subst hm0
                obtain ⟨r,r1,r2,_⟩:=hd.list.root
                rw [hx] at r1;cases r1;exact Or.inl r2
              · have:=(hd.list.node m x (by omega) hm hx).kind;omega
            have hT:=text_kids hd hx hk2
            have hle:=kidsT_len hd hx hk2
            have he:=(Qw hd hm).2.2.1
            have hl:=texts_loop hd (kidsF d (endN d m) (d.l.length+1) (m+1)) (kidsF_mem d _ he _ _) (by have:=kidsF_len d (endN d m) (d.l.length+1) (m+1);have:=hd.many;omega) (by rw [←hT];exact hle) _ 0 (Nat.le_refl _) (Nat.zero_le _)
            simp only [cond_false,Kids_in hd hm,Option.bind_some]
            rw [show iter (zR (some d,0) (kidsF d (endN d m) (d.l.length+1) (m+1))) ([],0)=_ from hl]
            simp only [Option.bind_some]
            rw [Text_self hd hx,Option.bind_some,hT]
            simp
        · rw [show decide ((m:Int)≥(d.l.length:Int))=true by rw [decide_eq_true_eq];omega];rfl
end G
