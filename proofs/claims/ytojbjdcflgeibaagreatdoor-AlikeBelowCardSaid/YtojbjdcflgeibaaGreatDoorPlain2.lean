/- THE DOCUMENT'S FUNCTIONS, plain: how many nodes, a node, its end, its children, its text: reckoned. No program, no memory. Conditions: none. -/
import Derived.Test.YtojbjdcflgeibaaGreatDoorPlain1
import Derived.Test.YtojbjdcflgeibaaGreatDoorAbsM2
import Derived.Test.YtojbjdcflgeibaaGreatDoorAbsM3
import Derived.KernelRfl
set_option maxRecDepth 20000
set_option linter.unusedVariables false
set_option linter.unusedSimpArgs false
namespace G
open W
section
variable {d:qv} (hd:DocOk d)
theorem Len_eq (d:qv):JP (some d)=some (d.l.length:Int):=rfl
theorem has_eq (d:qv)(n:Int):QE (some d) n=some (decide (0≤n∧n<(d.l.length:Int))):=by
 unfold QE
 rw [Len_eq]
 by_cases h:n≥0
 ·rw [show decide (n≥0)=true by rw [decide_eq_true_eq];exact h]
  simp only [cond_true,Option.bind_some]
  congr 1
  rw [Bool.eq_iff_iff];simp only [decide_eq_true_eq];omega
 ·rw [show decide (n≥0)=false by rw [decide_eq_false_iff_not];exact h]
  simp only [cond_false]
  congr 1
  rw [Bool.eq_iff_iff];simp only [decide_eq_true_eq];simp;omega
theorem has_in {d:qv}{m:Nat}(h:m<d.l.length):QE (some d) (m:Int)=some true:=by
 rw [has_eq];congr 1;rw [decide_eq_true_eq];omega
include hd in
theorem Node_in {m:Nat}{x:zd}(hx:d.l[m]? =some x):Qg (some d) (m:Int)=some x:=by
 unfold Qg
 have hm:=(List.getElem?_eq_some_iff.1 hx).1
 rw [has_in hm]
 simp only [Option.bind_some,Bool.not_true,cond_false]
 rw [QI,hx]
 simp only [Option.bind_some]
 rw [cloneD_eq x (hd.size x (List.mem_of_getElem? hx))];rfl
def endN (d:qv)(m:Nat):Nat:=(gz d.end_ m).toNat
include hd in
theorem qp {m:Nat}(hm:m<d.l.length):d.end_[m]? =some (endN d m:Int)∧m<endN d m∧endN d m≤d.l.length∧ ∀ i,m≤i→i<d.l.length→(i<endN d m↔Anc d.l i m):=by
 obtain ⟨e,h1,h2,h3,h4⟩:=hd.ends.2 m hm
 have:endN d m=e:=by unfold endN gz;rw [h1];simp
 rw [this]
 exact ⟨h1,h2,h3,h4⟩
include hd in
theorem End_in {m:Nat}(hm:m<d.l.length):JS (some d) (m:Int)=some (endN d m:Int):=by
 unfold JS
 rw [has_in hm]
 simp only [Option.bind_some,Bool.not_true,cond_false]
 rw [QI,(qp hd hm).1];rfl
include hd in
theorem end_nest {n m:Nat}(hn:n<d.l.length)(h1:n≤m)(h2:m<endN d n):endN d m≤endN d n:=by
 obtain ⟨_,a1,a2,a3⟩:=qp hd hn
 have hm:m<d.l.length:=by omega
 obtain ⟨_,b1,b2,b3⟩:=qp hd hm
 have k1:=(b3 (endN d m-1) (by omega) (by omega)).1 (by omega)
 have k2:=(a3 m h1 hm).1 h2
 have:=(a3 (endN d m-1) (by omega) (by omega)).2 (k1.trans k2)
 omega
include hd in
theorem end_leaf {m:Nat}{x:zd}(hx:d.l[m]? =some x)(h0:x.Kind≠0)(h1:x.Kind≠1):endN d m=m+1:=by
 have hm:=(List.getElem?_eq_some_iff.1 hx).1
 obtain ⟨_,b1,b2,b3⟩:=qp hd hm;apply Classical.byContradiction
 intro hne
 have hlt:m+1<endN d m:=by omega
 have ha:=(b3 (m+1) (by omega) (by omega)).1 hlt
 obtain ⟨z,z1,z2,z3⟩:=ha.up (by omega)
 have hz:=hd.list.node (m+1) z (by omega) (by omega) z1
 have hp:ParOk d.l d.l.length:=fun m x a b c=>(hd.list.node m x a b c).par
 have hr0: ∀ r,d.l[0]? =some r→r.Parent= -1:=fun r hr=>by
  obtain ⟨r',r1,_,r2,_⟩:=hd.list.root
  rw [r1] at hr;cases hr;exact r2
 have hle:=z3.le hp hr0
 have hpar:=hz.par
 have:z.Parent.toNat=m:=by omega
 obtain ⟨w,w1,w2⟩:=hz.pk
 rw [this,hx] at w1
 cases w1
 rcases w2 with w2|w2
 ·exact h0 w2
 ·exact h1 w2
def kidsF (d:qv)(e:Nat):Nat→Nat→List Int
 |0,_=>[]
 |f+1,m=>if m<e then (m:Int)::kidsF d e f (endN d m) else []
theorem kidsF_len (d:qv)(e:Nat): ∀ (f m:Nat),(kidsF d e f m).length≤f
 |0,_=>Nat.le_refl _
 |f+1,m=>by
  unfold kidsF
  split
  ·rw [List.length_cons];have:=kidsF_len d e f (endN d m);omega
  ·exact Nat.zero_le _
include hd in
theorem kids_loop {n:Nat}(hn:n<d.l.length): ∀ (f m:Nat) (out:List Int),endN d n-m<f→n<m→out.length≤m→iter (QX (some d) (n:Int)) ((m:Int),out)=some (out++kidsF d (endN d n) f m):=by
 obtain ⟨ha,a1,a2,a3⟩:=qp hd hn
 have hmany:=hd.many
 intro f
 induction f with
 |zero=>intro m out h;omega
 |succ f ih=>
  intro m out h1 h2 h3
  have an:at' d.end_ (n:Int)=some (endN d n:Int):=by rw [QI,ha]
  unfold kidsF
  by_cases hm:m<endN d n
  ·have hml:m<d.l.length:=by omega
   obtain ⟨hb,b1,b2,b3⟩:=qp hd hml
   have am:at' d.end_ (m:Int)=some (endN d m:Int):=by rw [QI,hb]
   have k:=ih (endN d m) (out++[(m:Int)]) (by omega) (by omega) (by simp;omega)
   rw [if_pos hm,show out++(m:Int)::kidsF d (endN d n) f (endN d m)=out++[(m:Int)]++kidsF d (endN d n) f (endN d m) by simp,←k]
   refine zr ?_;unfold QX
   simp only [Option.bind_some,an]
   rw [show decide ((m:Int)<(endN d n:Int))=true by rw [decide_eq_true_eq];omega]
   simp only [cond_true]
   rw [ZN (by simp;omega)]
   simp only [Option.bind_some,am]
  ·rw [if_neg hm,List.append_nil]
   refine zh ?_;unfold QX
   simp only [Option.bind_some,an]
   rw [show decide ((m:Int)<(endN d n:Int))=false by rw [decide_eq_false_iff_not];omega]
   simp only [cond_false]
include hd in
theorem Kids_in {n:Nat}(hn:n<d.l.length):QN (some d) (n:Int)=some (kidsF d (endN d n) (d.l.length+1) (n+1)):=by
 have hmany:=hd.many
 have a2:=(qp hd hn).2.2.1
 unfold QN
 rw [has_in hn]
 simp only [Option.bind_some,Bool.not_true,cond_false]
 rw [zU (by omega),kids_loop hd hn (d.l.length+1) (n+1) [] (by omega) (by omega) (by simp)]
 simp
end
def pt (n:Int):TPoint:=TPoint.mk n 0 0
section
variable {d:qv} (hd:DocOk d)
include hd in
theorem parOk:ParOk d.l d.l.length:=fun m x a b c=>(hd.list.node m x a b c).par
include hd in
theorem root_par: ∀ r,d.l[0]? =some r→r.Parent= -1:=fun r hr=>by
 obtain ⟨r',r1,_,r2,_⟩:=hd.list.root
 rw [r1] at hr;cases hr;exact r2
include hd in
theorem par_lt {m:Nat}{x:zd}(hx:d.l[m]? =some x): -1≤x.Parent∧x.Parent<(m:Int)∧(0<m→0≤x.Parent):=by
 have hm:=(List.getElem?_eq_some_iff.1 hx).1
 by_cases h0:m=0
 ·subst h0;have:=root_par hd x hx;omega
 ·have:=parOk hd m x (by omega) hm hx;omega
end
section
variable {d:qv} (hd:DocOk d)
include hd in
theorem anc_le {a b:Nat}(h:Anc d.l a b):b≤a:=Anc.le (parOk hd) (root_par hd) h
include hd in
theorem mem_kidsF {n:Nat}(hn:n<d.l.length)(k:Nat): ∀ (f m:Nat),endN d n-m<f→n<m→m≤endN d n→(∀ i,n<i→i<m→endN d i≤m)→((k:Int)∈kidsF d (endN d n) f m↔m≤k∧ ∃ x,d.l[k]? =some x∧x.Parent=(n:Int)):=by
 obtain ⟨_,_,hEl,hEa⟩:=qp hd hn
 intro f
 induction f with
 |zero=>intro m h;omega
 |succ f ih=>
  intro m h1 h2 h3 h4
  unfold kidsF
  by_cases hm:m<endN d n
  ·have hml:m<d.l.length:=by omega
   obtain ⟨_,b1,b2,b3⟩:=qp hd hml
   have hnest:=end_nest hd hn (Nat.le_of_lt h2) hm
   rw [if_pos hm,List.mem_cons]
   have ih':=ih (endN d m) (by omega) (by omega) hnest (fun i i1 i2=>by
    by_cases hi:i<m
    ·have:=h4 i i1 hi;omega
    ·exact end_nest hd hml (by omega) i2)
   rw [ih']
   have hxm:d.l[m]? =some d.l[m]:=List.getElem?_eq_getElem hml
   have hpar:d.l[m].Parent=(n:Int):=by
    have ha:=(hEa m (by omega) hml).1 hm
    obtain ⟨z,z1,z2,z3⟩:=Anc.up ha (by omega)
    rw [hxm] at z1
    cases z1
    have hlt:=par_lt hd hxm
    have hle:=anc_le hd z3
    by_cases e:d.l[m].Parent.toNat=n
    ·omega
    ·exfalso
     have q:=h4 d.l[m].Parent.toNat (by omega) (by omega)
     have hpl:d.l[m].Parent.toNat<d.l.length:=by omega
     have q2:=((qp hd hpl).2.2.2 m (by omega) hml).2 (Anc.step hxm z2 (Anc.refl _))
     omega
   constructor
   ·rintro (h|⟨h,h'⟩)
    ·obtain rfl:k=m:=by omega
     exact ⟨Nat.le_refl _,_,hxm,hpar⟩
    ·exact ⟨by omega,h'⟩
   ·rintro ⟨h,x,hx,hp⟩
    by_cases e:k=m
    ·exact Or.inl (by omega)
    ·refine Or.inr ⟨?_,x,hx,hp⟩
     have hk:=(List.getElem?_eq_some_iff.1 hx).1
     by_cases hke:k<endN d m
     ·exfalso
      have ha:=(b3 k h hk).1 hke
      obtain ⟨z,z1,z2,z3⟩:=Anc.up ha e
      rw [hx] at z1
      cases z1
      have:=anc_le hd z3
      rw [hp] at this
      omega
     ·omega
  ·rw [if_neg hm]
   constructor
   ·intro h;cases h
   ·rintro ⟨h,x,hx,hp⟩
    exfalso
    have hk:=(List.getElem?_eq_some_iff.1 hx).1
    have ha:Anc d.l k n:=Anc.step hx (by omega) (by rw [hp,Int.toNat_natCast];exact Anc.refl _)
    have:=(hEa k (by omega) hk).2 ha
    omega
def kidsN (d:qv)(n:Nat):List Int:=kidsF d (endN d n) (d.l.length+1) (n+1)
include hd in
theorem mem_kids {n:Nat}(hn:n<d.l.length)(k:Nat):(k:Int)∈kidsN d n↔ ∃ x,d.l[k]? =some x∧x.Parent=(n:Int):=by
 obtain ⟨_,h1,h2,_⟩:=qp hd hn;unfold kidsN
 rw [mem_kidsF hd hn k _ _ (by omega) (Nat.lt_succ_self n) (by omega) (fun i a b=>by omega)]
 constructor
 ·exact fun h=>h.2
 ·rintro ⟨x,hx,hp⟩
  have:=par_lt hd hx
  exact ⟨by omega,x,hx,hp⟩
theorem kidsF_nat (d:qv)(e:Nat): ∀ (f m:Nat),∀ v∈kidsF d e f m,∃ k:Nat,v=(k:Int)
 |0,m,v,h=>by cases h
 |f+1,m,v,h=>by
  unfold kidsF at h
  split at h
  ·rcases List.mem_cons.1 h with h|h
   ·exact ⟨m,h⟩
   ·exact kidsF_nat d e f _ v h
  ·cases h
end
open Classical in
def firstL {α ρ:Type}(g:Nat→α→Option ρ)(fin:ρ):Nat→List α→ρ
 |_,[]=>fin
 |i,x::r=>match g i x with
  |some q=>q
  |none=>firstL g fin (i+1) r
theorem scan_from {α ρ:Type}(s:List α)(step:Int→Option (Int⊕ρ))(g:Nat→α→Option ρ)(fin:ρ)
 (h1: ∀ (i:Nat) (h:i<s.length),step (i:Int)=some (match g i s[i] with|some q=> .inr q|none=> .inl ((i+1:Nat):Int)))
 (h2:step (s.length:Int)=some (.inr fin)): ∀ (k i:Nat),s.length-i≤k→i≤s.length→iter step (i:Int)=some (firstL g fin i (s.drop i)):=by
 intro k
 induction k with
 |zero=>
  intro i a b
  obtain rfl:i=s.length:=by omega
  rw [List.drop_length]
  exact zh h2
 |succ k ih=>
  intro i a b
  by_cases h:i<s.length
  ·rw [List.drop_eq_getElem_cons h]
   unfold firstL
   have h1:=h1 i h
   cases hg:g i s[i] with
   |some q=>rw [hg] at h1;exact zh h1
   |none=>rw [hg] at h1;rw [zr h1];exact ih (i+1) (by omega) (by omega)
  ·obtain rfl:i=s.length:=by omega
   rw [List.drop_length]
   exact zh h2
theorem scan_list {α ρ:Type}(s:List α)(step:Int→Option (Int⊕ρ))(g:Nat→α→Option ρ)(fin:ρ)
 (h1: ∀ (i:Nat) (h:i<s.length),step (i:Int)=some (match g i s[i] with|some q=> .inr q|none=> .inl ((i+1:Nat):Int)))
 (h2:step (s.length:Int)=some (.inr fin)):iter step 0=some (firstL g fin 0 s):=
 scan_from s step g fin h1 h2 s.length 0 (by omega) (by omega)
def gath {α β:Type}(F:Nat→α→β→β):Nat→List α→β→β
 |_,[],b=>b
 |i,x::r,b=>gath F (i+1) r (F i x b)
theorem gath_from {α β ρ:Type}(s:List α)(step:Int×β→Option ((Int×β)⊕ρ))(F:Nat→α→β→β)(G:β→ρ)(P:Nat→β→Prop)
 (h1: ∀ (i:Nat) (h:i<s.length) (b:β),P i b→step ((i:Int),b)=some (.inl (((i+1:Nat):Int),F i s[i] b))∧P (i+1) (F i s[i] b))
 (h2: ∀ b,P s.length b→step ((s.length:Int),b)=some (.inr (G b))): ∀ (k i:Nat) (b:β),s.length-i≤k→i≤s.length→P i b→iter step ((i:Int),b)=some (G (gath F i (s.drop i) b))∧P s.length (gath F i (s.drop i) b):=by
 intro k
 induction k with
 |zero=>
  intro i b a c hp
  obtain rfl:i=s.length:=by omega
  rw [List.drop_length]
  exact ⟨zh (h2 b hp),hp⟩
 |succ k ih=>
  intro i b a c hp
  by_cases h:i<s.length
  ·rw [List.drop_eq_getElem_cons h]
   unfold gath;obtain ⟨e,hp'⟩:=h1 i h b hp
   rw [zr e]
   exact ih (i+1) _ (by omega) (by omega) hp'
  ·obtain rfl:i=s.length:=by omega
   rw [List.drop_length]
   exact ⟨zh (h2 b hp),hp⟩
theorem gath_list {α β ρ:Type}(s:List α)(step:Int×β→Option ((Int×β)⊕ρ))(F:Nat→α→β→β)(G:β→ρ)(P:Nat→β→Prop)
 (h1: ∀ (i:Nat) (h:i<s.length) (b:β),P i b→step ((i:Int),b)=some (.inl (((i+1:Nat):Int),F i s[i] b))∧P (i+1) (F i s[i] b))
 (h2: ∀ b,P s.length b→step ((s.length:Int),b)=some (.inr (G b))) (b:β) (hp:P 0 b):iter step (0,b)=some (G (gath F 0 s b))∧P s.length (gath F 0 s b):=
 gath_from s step F G P h1 h2 s.length 0 b (by omega) (by omega) hp
theorem firstL_idx {α:Type}(p:α→Bool): ∀ (i:Nat) (s:List α),∃ r,firstL (fun i x=>bif p x then some (Sum.inl (i:Int):Int⊕Unit) else none) (.inr ()) i s=r∧(match r with| .inl j=>0≤j∧s.any p=true| .inr _=>s.any p=false)
 |_,[]=>⟨_,rfl,rfl⟩
 |i,x::r=>by
  unfold firstL
  cases h:p x with
  |true=>exact ⟨.inl (i:Int),rfl,by omega,by simp [h]⟩
  |false=>
   obtain ⟨v,h1,h2⟩:=firstL_idx p (i+1) r;refine ⟨v,h1,?_⟩
   cases v with
   |inl j=>exact ⟨h2.1,by simp only [List.any_cons,h2.2,Bool.or_true]⟩
   |inr u=>simp only [List.any_cons,h,Bool.false_or];exact h2
theorem len_dec {α:Type}(l:List α):decide ((l.length:Int)<(l.length:Int))=false:=by simp
theorem lt_dec {i n:Nat}(h:i<n):decide ((i:Int)<(n:Int))=true:=by rw [decide_eq_true_eq];omega
theorem containsAttr (s:List zw)(v:zw)(hs:s.length≤100000000):Zv s v=some (s.any fun w=>zw.eqb v w):=by
 unfold Zv Q8
 have h:=scan_list s (Zx s v) (fun i x=>bif zw.eqb v x then some (Sum.inl (i:Int):Int⊕Unit) else none) (.inr ()) (fun i hi=>by
  have hw:w64 ((i:Int)+1)=((i+1:Nat):Int):=zU (by omega)
  unfold Zx
  rw [lt_dec hi,cond_true,zQ hi,Option.bind_some]
  cases zw.eqb v s[i] with
  |true=>rfl
  |false=>rw [cond_false,hw];rfl) (by unfold Zx;rw [len_dec];rfl)
 obtain ⟨r,h1,h2⟩:=firstL_idx (fun w=>zw.eqb v w) 0 s
 rw [h,h1]
 cases r with
 |inl j=>
  simp only [Option.bind_some,Sum.elim_inl]
  rw [h2.2,show decide (j≥0)=true by rw [decide_eq_true_eq];exact h2.1]
 |inr u=>rw [h2];rfl
def all2 {α β:Type}(p:α→β→Bool):List α→List β→Bool
 |[],[]=>true
 |a::l,b::m=>p a b&&all2 p l m
 |_,_=>false
theorem all2_len {α β:Type}{p:α→β→Bool}: ∀ {l:List α} {m:List β},all2 p l m=true→l.length=m.length
 |[],[],_=>rfl
 |a::l,b::m,h=>by
  unfold all2 at h
  rw [Bool.and_eq_true] at h
  simp [all2_len h.2]
 |[],b::m,h=>by cases h
 |a::l,[],h=>by cases h
theorem all2_get {α β:Type}{p:α→β→Bool}: ∀ {l:List α} {m:List β},all2 p l m=true→ ∀ (i:Nat) (a:α) (b:β),l[i]? =some a→m[i]? =some b→p a b=true
 |[],[],_,i,a,b,h,_=>by simp at h
 |x::l,y::m,h,i,a,b,ha,hb=>by
  unfold all2 at h
  rw [Bool.and_eq_true] at h
  cases i with
  |zero=>simp at ha hb;subst ha hb;exact h.1
  |succ i=>exact all2_get h.2 i a b (by simpa using ha) (by simpa using hb)
 |[],b::m,h,_,_,_,_,_=>by cases h
 |a::l,[],h,_,_,_,_,_=>by cases h
theorem all2_ne {α β:Type}(p:α→β→Bool): ∀ (l:List α) (m:List β),l.length≠m.length→all2 p l m=false:=by
 intro l m h
 cases hq:all2 p l m with
 |false=>rfl
 |true=>exact absurd (all2_len hq) h
theorem equalItems (s1 s2:List qb)(eq:qb→qb→Option Bool)(g:qb→qb→Bool)(hg: ∀ x∈s1,∀ y∈s2,eq x y=some (g x y))(hs:s1.length≤100000000):qH s1 s2 eq=some (all2 g s1 s2):=by
 unfold qH
 by_cases hl:s1.length=s2.length
 ·rw [show ((s1.length:Int) != (s2.length:Int))=false by rw [hl];simp,cond_false]
  have key: ∀ (k i:Nat),s1.length-i≤k→i≤s1.length→iter (zM s1 s2 eq) (i:Int)=some (bif all2 g (s1.drop i) (s2.drop i) then .inr () else .inl ()):=by
   intro k
   induction k with
   |zero=>
    intro i a b
    obtain rfl:i=s1.length:=by omega
    rw [List.drop_length,List.drop_of_length_le (by omega)]
    refine zh ?_;unfold zM
    rw [len_dec];rfl
   |succ k ih=>
    intro i a b
    by_cases h:i<s1.length
    ·have h2:i<s2.length:=by omega
     rw [List.drop_eq_getElem_cons h,List.drop_eq_getElem_cons h2]
     unfold all2
     have hw:w64 ((i:Int)+1)=((i+1:Nat):Int):=zU (by omega)
     cases hgi:g s1[i] s2[i] with
     |true=>
      rw [Bool.true_and,←ih (i+1) (by omega) (by omega)]
      refine zr ?_;unfold zM
      rw [lt_dec h,cond_true,zQ h,Option.bind_some,zQ h2,Option.bind_some,hg _ (List.getElem_mem h) _ (List.getElem_mem h2),hgi,Option.bind_some,hw]
      rfl
     |false=>
      rw [Bool.false_and]
      refine zh ?_;unfold zM
      rw [lt_dec h,cond_true,zQ h,Option.bind_some,zQ h2,Option.bind_some,hg _ (List.getElem_mem h) _ (List.getElem_mem h2),hgi,Option.bind_some]
      rfl
    ·obtain rfl:i=s1.length:=by omega
     rw [List.drop_length,List.drop_of_length_le (by omega)]
     refine zh ?_;unfold zM
     rw [len_dec];rfl
  have:=key s1.length 0 (by omega) (by omega)
  rw [List.drop_zero,List.drop_zero] at this
  rw [show iter (zM s1 s2 eq) 0=_ from this]
  cases all2 g s1 s2<;>rfl
 ·rw [show ((s1.length:Int) != (s2.length:Int))=true by rw [bne_iff_ne];omega,cond_true,all2_ne g s1 s2 hl]
def lastT (o:Option qb):Bool:=match o with
 |some z=>z.is_
 |none=>false
def addI (c:Bool)(k:Int)(x:zd)(out:List qb):List qb:=
 bif x.Kind==3&& !c then out else
 bif x.Kind==2&&(!c&&lastT out.getLast?) then
  (match out.getLast? with|some z=>out.dropLast++[qb.mk z.n (z.text++x.Text) z.is_]|none=>out)
 else bif x.Kind==2 then out++[qb.mk 0 x.Text true] else out++[qb.mk k [] false]
def nodeD (d:qv)(k:Int):zd:=(d.l[k.toNat]?).getD (zd.mk 0 0 [] [] [] [] [] [])
def itemsL (d:qv)(c:Bool)(ks:List Int)(out:List qb):List qb:=gath (fun _ k out=>addI c k (nodeD d k) out) 0 ks out
theorem items_step (p:Zf){d:qv}(hd:DocOk d)(n:Int)(ks:List Int)(hk: ∀ k∈ks,∃ m:Nat,k=(m:Int)∧m<d.l.length)(hks:ks.length≤4001)(i:Nat)(h:i<ks.length)(out:List qb)(ho:out.length≤i)(hb: ∀ x∈out,x.text.length≤i*1048576):
 qE p (some d) n ks ((i:Int),out)=some (.inl (((i+1:Nat):Int),addI p.comments ks[i] (nodeD d ks[i]) out))∧(addI p.comments ks[i] (nodeD d ks[i]) out).length≤i+1∧ ∀ x∈addI p.comments ks[i] (nodeD d ks[i]) out,x.text.length≤(i+1)*1048576:=by
 obtain ⟨m,hm,hml⟩:=hk _ (List.getElem_mem h)
 have hx:d.l[m]? =some d.l[m]:=List.getElem?_eq_getElem hml
 have hnd:nodeD d ks[i]=d.l[m]:=by unfold nodeD;rw [hm,Int.toNat_natCast,hx];rfl
 have htx:d.l[m].Text.length≤1048576:=by
  have:=hd.size _ (List.mem_of_getElem? hx)
  exact this.2.2.2.1
 have hw:w64 ((i:Int)+1)=((i+1:Nat):Int):=zU (by omega)
 have hmul:i*1048576≤(i+1)*1048576:=Nat.mul_le_mul_right _ (Nat.le_succ i)
 have hin:Qg (some d) ks[i]=some d.l[m]:=by rw [hm];exact Node_in hd hx
 rw [hnd]
 generalize d.l[m]=x at*
 unfold qE
 simp only
 rw [lt_dec h,cond_true,zQ h,Option.bind_some,hin,Option.bind_some]
 unfold addI lastT
 cases e3:(x.Kind==3&& !p.comments) with
 |true=>
  have:(bif x.Kind==3 then some (!p.comments) else some false)=some true:=by
   rw [Bool.and_eq_true] at e3
   rw [e3.1,e3.2];rfl
  rw [this]
  simp only [Option.bind_some,cond_true,hw]
  exact ⟨trivial,by omega,fun y hy=>Nat.le_trans (hb y hy) hmul⟩
 |false=>
  have:(bif x.Kind==3 then some (!p.comments) else some false)=some false:=by
   cases hk3:(x.Kind==3) with
   |true=>rw [hk3,Bool.true_and] at e3;rw [e3];rfl
   |false=>rfl
  rw [this]
  simp only [Option.bind_some,cond_false]
  cases hlast:out.getLast? with
  |none=>
   have hout:out=[]:=List.getLast?_eq_none_iff.1 hlast
   subst hout
   have:(bif x.Kind==2 then (bif !p.comments then (bif decide (w64 ((([]:List qb).length:Int)-1)≥0) then (at' ([]:List qb) (w64 ((([]:List qb).length:Int)-1))).bind fun v6=>some v6.is_ else some false) else some false) else some false)=some false:=by
    rw [show decide (w64 ((([]:List qb).length:Int)-1)≥0)=false from rfl]
    cases (x.Kind==2)<;>cases p.comments<;>rfl
   rw [this]
   simp only [Option.bind_some,cond_false,Bool.and_false]
   cases hk2:(x.Kind==2) with
   |true=>
    simp only [cond_true]
    rw [ZN (by simp)]
    simp only [Option.bind_some,hw,List.nil_append]
    refine ⟨trivial,by simp,fun y hy=> ?_⟩;obtain rfl:=List.mem_singleton.1 hy
    rw [Nat.succ_mul]
    exact Nat.le_trans htx (Nat.le_add_left _ _)
   |false=>
    simp only [cond_false]
    rw [ZN (by simp)]
    simp only [Option.bind_some,hw,List.nil_append]
    refine ⟨trivial,by simp,fun y hy=> ?_⟩;obtain rfl:=List.mem_singleton.1 hy;exact Nat.zero_le _
  |some z=>
   have hne:out≠[]:=fun e=>by rw [e] at hlast;cases hlast
   have hpos:0<out.length:=List.length_pos_iff.2 hne
   have hlt:out.length-1<out.length:=by omega
   have hz:out[out.length-1]=z:=by
    rw [List.getLast?_eq_getElem?,List.getElem?_eq_getElem hlt] at hlast
    exact Option.some.inj hlast
   have hwl:w64 ((out.length:Int)-1)=((out.length-1:Nat):Int):=by rw [qo (by omega)];omega
   have hat:at' out (w64 ((out.length:Int)-1))=some z:=by rw [hwl,zQ hlt,hz]
   have hzm:z∈out:=List.mem_of_getLast? hlast
   rw [hwl,show decide (((out.length-1:Nat):Int)≥0)=true by rw [decide_eq_true_eq];omega,←hwl,hat]
   simp only [Option.bind_some,cond_true]
   have hq:(bif x.Kind==2 then (bif !p.comments then some z.is_ else some false) else some false)=some (x.Kind==2&&(!p.comments&&z.is_)):=by
    cases (x.Kind==2)<;>cases p.comments<;>rfl
   rw [hq]
   simp only [Option.bind_some]
   cases e2:(x.Kind==2&&(!p.comments&&z.is_)) with
   |true=>
    simp only [cond_true]
    have hzl:=hb z hzm
    rw [cat_of (by
     have:i*1048576≤4001*1048576:=Nat.mul_le_mul_right _ (by omega)
     omega),Option.bind_some,hwl,put_of hlt,Option.bind_some,hw]
    have hset:out.set (out.length-1) (qb.mk z.n (z.text++x.Text) z.is_)=out.dropLast++[qb.mk z.n (z.text++x.Text) z.is_]:=by
     obtain ⟨q,rfl⟩: ∃ q,out=q++[z]:=⟨out.take (out.length-1),by
      have:=List.take_succ_eq_append_getElem hlt
      rw [show out.length-1+1=out.length by omega,List.take_length,hz] at this
      exact this⟩
     simp
    rw [hset]
    refine ⟨rfl,by simp;omega,fun y hy=> ?_⟩
    rcases List.mem_append.1 hy with hy|hy
    ·exact Nat.le_trans (hb y (List.dropLast_subset _ hy)) hmul
    ·obtain rfl:=List.mem_singleton.1 hy
     rw [List.length_append,Nat.succ_mul]
     omega
   |false=>
    simp only [cond_false]
    cases hk2:(x.Kind==2) with
    |true=>
     simp only [cond_true]
     rw [ZN (by simp;omega)]
     simp only [Option.bind_some,hw]
     refine ⟨trivial,by simp;omega,fun y hy=> ?_⟩
     rcases List.mem_append.1 hy with hy|hy
     ·exact Nat.le_trans (hb y hy) hmul
     ·obtain rfl:=List.mem_singleton.1 hy
      rw [Nat.succ_mul]
      exact Nat.le_trans htx (Nat.le_add_left _ _)
    |false=>
     simp only [cond_false]
     rw [ZN (by simp;omega)]
     simp only [Option.bind_some,hw]
     refine ⟨trivial,by simp;omega,fun y hy=> ?_⟩
     rcases List.mem_append.1 hy with hy|hy
     ·exact Nat.le_trans (hb y hy) hmul
     ·obtain rfl:=List.mem_singleton.1 hy;exact Nat.zero_le _
theorem kidsN_in {d:qv}(hd:DocOk d){n:Nat}(hn:n<d.l.length): ∀ k∈kidsN d n,∃ m:Nat,k=(m:Int)∧m<d.l.length∧n<m∧endN d m≤endN d n∧ ∃ x,d.l[m]? =some x∧x.Parent=(n:Int):=by
 intro k hk
 obtain ⟨m,rfl⟩:=kidsF_nat d _ _ _ k hk;obtain ⟨x,hx,hp⟩:=(mem_kids hd hn m).1 hk
 have hm:=(List.getElem?_eq_some_iff.1 hx).1
 have hlt:=par_lt hd hx
 have hnm:n<m:=by omega
 have ha:Anc d.l m n:=Anc.step hx (by omega) (by rw [hp,Int.toNat_natCast];exact Anc.refl _)
 exact ⟨m,rfl,hm,hnm,end_nest hd hn (by omega) (((qp hd hn).2.2.2 m (by omega) hm).2 ha),x,hx,hp⟩
theorem items_eq (p:Zf){d:qv}(hd:DocOk d){n:Nat}(hn:n<d.l.length):ZS p (some d) (n:Int)=some (itemsL d p.comments (kidsN d n) [])∧(itemsL d p.comments (kidsN d n) []).length≤4001:=by
 have hlen:(kidsN d n).length≤4001:=by
  have:=kidsF_len d (endN d n) (d.l.length+1) (n+1)
  have:=hd.many
  unfold kidsN;omega
 have hin: ∀ k∈kidsN d n,∃ m:Nat,k=(m:Int)∧m<d.l.length:=fun k hk=>by
  obtain ⟨m,a,b,_⟩:=kidsN_in hd hn k hk;exact ⟨m,a,b⟩
 have h:=gath_list (kidsN d n) (qE p (some d) (n:Int) (kidsN d n)) (fun _ k out=>addI p.comments k (nodeD d k) out) (fun out=>out) (fun i out=>out.length≤i∧ ∀ x∈out,x.text.length≤i*1048576)
  (fun i hi out ho=>by
   obtain ⟨a,b,c⟩:=items_step p hd (n:Int) (kidsN d n) hin hlen i hi out ho.1 ho.2
   exact ⟨a,b,c⟩)
  (fun out _=>by unfold qE;simp only;rw [len_dec];rfl) [] ⟨by simp,by simp⟩
 unfold ZS
 rw [Kids_in hd hn,Option.bind_some]
 refine ⟨?_,Nat.le_trans h.2.1 hlen⟩
 show ((iter (qE p (some d) (n:Int) (kidsN d n)) (0,[])).bind fun q14=>some q14)=_
 rw [h.1];rfl
def attB (x y:zd):Bool:=x.Attrs.all fun v=>y.Attrs.any fun w=>zw.eqb v w
def headB (x y:zd):Bool:=x.Kind==y.Kind&&(x.Local==y.Local&&(x.Text==y.Text&&(x.Prefix==y.Prefix&&(x.URI==y.URI&&(x.Attrs.length==y.Attrs.length&&attB x y)))))
def itemB (f:Int→Int→Bool)(x y:qb):Bool:=bif x.is_||y.is_ then x.is_==y.is_&&x.text==y.text else f x.n y.n
def likeB (a b:qv)(c:Bool):Nat→Int→Int→Bool
 |0,_,_=>false
 |k+1,n,m=>headB (nodeD a n) (nodeD b m)&&all2 (itemB (likeB a b c k)) (itemsL a c (kidsN a n.toNat) []) (itemsL b c (kidsN b m.toNat) [])
theorem firstL_all {α:Type}(p:α→Bool): ∀ (i:Nat) (s:List α),firstL (fun _ x=>bif p x then none else some (Sum.inl ():Unit⊕Unit)) (.inr ()) i s=bif s.all p then .inr () else .inl ()
 |_,[]=>rfl
 |i,x::r=>by
  unfold firstL
  cases h:p x with
  |false=>simp [h]
  |true=>simp only [cond_true,List.all_cons,h,Bool.true_and];exact firstL_all p (i+1) r
theorem mem_addI {c:Bool}{k:Int}{x:zd}{out:List qb}{z:qb}(h:z∈addI c k x out)(hz:z.is_=false):z∈out∨z.n=k:=by
 unfold addI at h
 cases e3:(x.Kind==3&& !c) with
 |true=>rw [e3] at h;exact Or.inl h
 |false=>
  rw [e3,cond_false] at h
  cases e2:(x.Kind==2&&(!c&&lastT out.getLast?)) with
  |true=>
   rw [e2,cond_true] at h
   cases hl:out.getLast? with
   |none=>rw [hl] at h;exact Or.inl h
   |some q=>
    rw [hl] at h
    dsimp only at h
    rcases List.mem_append.1 h with h|h
    ·exact Or.inl (List.dropLast_subset _ h)
    ·obtain rfl:=List.mem_singleton.1 h
     rw [hl] at e2
     simp only [Bool.and_eq_true] at e2
     have:=e2.2.2
     unfold lastT at this
     dsimp only at hz this
     rw [this] at hz;cases hz
  |false=>
   rw [e2,cond_false] at h
   cases ek:(x.Kind==2) with
   |true=>
    rw [ek,cond_true] at h
    rcases List.mem_append.1 h with h|h
    ·exact Or.inl h
    ·obtain rfl:=List.mem_singleton.1 h;cases hz
   |false=>
    rw [ek,cond_false] at h
    rcases List.mem_append.1 h with h|h
    ·exact Or.inl h
    ·obtain rfl:=List.mem_singleton.1 h;exact Or.inr rfl
theorem mem_items (d:qv)(c:Bool): ∀ (ks:List Int) (i:Nat) (out:List qb) (z:qb),z∈gath (fun _ k out=>addI c k (nodeD d k) out) i ks out→z.is_=false→z∈out∨z.n∈ks
 |[],i,out,z,h,hz=>Or.inl h
 |k::r,i,out,z,h,hz=>by
  unfold gath at h
  rcases mem_items d c r (i+1) _ z h hz with h|h
  ·rcases mem_addI h hz with h|h
   ·exact Or.inl h
   ·exact Or.inr (by rw [h];exact List.mem_cons_self)
  ·exact Or.inr (List.mem_cons_of_mem _ h)
theorem nodeD_in {d:qv}{m:Nat}{x:zd}(hx:d.l[m]? =some x):nodeD d (m:Int)=x:=by unfold nodeD;rw [Int.toNat_natCast,hx];rfl
section
variable {a b:qv} (ha:DocOk a) (hb:DocOk b)
include ha hb in
theorem nodes_F_eq (c:Bool)(f:Zf→Int→Int→Option Bool)(g:Int→Int→Bool){n m:Nat}(hn:n<a.l.length)(hm:m<b.l.length)
 (hf: ∀ x∈kidsN a n,∀ y∈kidsN b m,f (Zf.mk (some a) (some b) c) x y=some (g x y)):
 qB f (Zf.mk (some a) (some b) c) (n:Int) (m:Int)=some (headB (nodeD a n) (nodeD b m)&&all2 (itemB g) (itemsL a c (kidsN a n) []) (itemsL b c (kidsN b m) [])):=by
 have hx:a.l[n]? =some a.l[n]:=List.getElem?_eq_getElem hn
 have hy:b.l[m]? =some b.l[m]:=List.getElem?_eq_getElem hm
 rw [nodeD_in hx,nodeD_in hy]
 have hax:=ha.few _ (List.mem_of_getElem? hx)
 have hby:=hb.few _ (List.mem_of_getElem? hy)
 unfold qB
 simp only
 rw [Node_in ha hx,Node_in hb hy]
 simp only [Option.bind_some]
 generalize a.l[n]=x at*
 generalize b.l[m]=y at*
 have hkids:Z8 f (Zf.mk (some a) (some b) c) (n:Int) (m:Int)=some (all2 (itemB g) (itemsL a c (kidsN a n) []) (itemsL b c (kidsN b m) [])):=by
  unfold Z8
  simp only
  rw [(items_eq (Zf.mk (some a) (some b) c) ha hn).1,Option.bind_some,(items_eq (Zf.mk (some a) (some b) c) hb hm).1,Option.bind_some]
  rw [equalItems _ _ _ (itemB g) (fun u hu v hv=> ?_) (Nat.le_trans (items_eq (Zf.mk (some a) (some b) c) ha hn).2 (by omega)),Option.bind_some]
  unfold ZW itemB
  cases hu1:u.is_ with
  |true=>cases hv1:v.is_<;>rfl
  |false=>
   cases hv1:v.is_ with
   |true=>rfl
   |false=>
    have h1:=(mem_items a c (kidsN a n) 0 [] u hu hu1).resolve_left (by simp)
    have h2:=(mem_items b c (kidsN b m) 0 [] v hv hv1).resolve_left (by simp)
    simp only [cond_false,Option.bind_some,Bool.or_false,hf _ h1 _ h2]
 have hloop:iter (Zh (x.Kind,x.Parent,x.Prefix,x.Local,x.URI,x.Text,x.Decls,x.Attrs,y.Kind,y.Parent,y.Prefix,y.Local,y.URI,y.Text,y.Decls,y.Attrs)) 0=some (bif attB x y then .inr () else .inl ()):=by
  have:=scan_list x.Attrs (Zh (x.Kind,x.Parent,x.Prefix,x.Local,x.URI,x.Text,x.Decls,x.Attrs,y.Kind,y.Parent,y.Prefix,y.Local,y.URI,y.Text,y.Decls,y.Attrs)) (fun _ v=>bif y.Attrs.any (fun w=>zw.eqb v w) then none else some (Sum.inl ():Unit⊕Unit)) (.inr ()) (fun i hi=>by
   have hw:w64 ((i:Int)+1)=((i+1:Nat):Int):=zU (by omega)
   unfold Zh
   simp only
   rw [lt_dec hi,cond_true,zQ hi,Option.bind_some,containsAttr _ _ (by omega),Option.bind_some,hw]
   cases y.Attrs.any fun w=>zw.eqb x.Attrs[i] w<;>rfl) (by unfold Zh;simp only;rw [len_dec];rfl)
  rw [this,firstL_all (fun v=>y.Attrs.any fun w=>zw.eqb v w)]
  rfl
 rw [hloop,hkids]
 unfold headB
 have e1:(x.Kind != y.Kind)= !(x.Kind==y.Kind):=rfl
 have e2:((x.Attrs.length:Int) != (y.Attrs.length:Int))= !(x.Attrs.length==y.Attrs.length):=by
  rw [show ((x.Attrs.length:Int) != (y.Attrs.length:Int))= !((x.Attrs.length:Int)==(y.Attrs.length:Int)) from rfl]
  congr 1
  rw [Bool.eq_iff_iff,beq_iff_eq,beq_iff_eq];omega
 rw [e1,e2]
 cases (x.Kind==y.Kind) with
 |false=>rfl
 |true=>
 cases (x.Local==y.Local) with
 |false=>rfl
 |true=>
 cases (x.Text==y.Text) with
 |false=>rfl
 |true=>
 cases (x.Prefix==y.Prefix) with
 |false=>rfl
 |true=>
 cases (x.URI==y.URI) with
 |false=>rfl
 |true=>
 cases (x.Attrs.length==y.Attrs.length) with
 |false=>rfl
 |true=>
 cases attB x y with
 |false=>rfl
 |true=>rfl
include ha hb in
theorem nodes_n_eq (c:Bool): ∀ (k n m:Nat),n<a.l.length→m<b.l.length→endN a n-n≤k→qd k (Zf.mk (some a) (some b) c) (n:Int) (m:Int)=some (likeB a b c k (n:Int) (m:Int))
 |0,n,m,hn,hm,hk=>by have:=(qp ha hn).2.1;omega
 |k+1,n,m,hn,hm,hk=>by
  have h:=nodes_F_eq ha hb c (qd k) (likeB a b c k) hn hm (fun x hx y hy=>by
   obtain ⟨i,rfl,i1,i2,i3,_⟩:=kidsN_in ha hn x hx;obtain ⟨j,rfl,j1,j2,j3,_⟩:=kidsN_in hb hm y hy
   have:=(qp ha i1).2.1
   exact nodes_n_eq c k i j i1 j1 (by omega))
  unfold likeB
  rw [Int.toNat_natCast,Int.toNat_natCast]
  exact h
theorem LeI {σ ρ:Type}{f g:σ→Option (σ⊕ρ)}(h: ∀ s,Le (f s) (g s))(s:σ):Le (iter f s) (iter g s):=fun q hq=>by
 obtain ⟨n,hn⟩:=iterN_of hq;exact iter_of (iterN_le h n s q hn)
theorem nodes_F_le {f g:Zf→Int→Int→Option Bool}(h: ∀ p n m,Le (f p n m) (g p n m))(p:Zf)(n m:Int):Le (qB f p n m) (qB g p n m):=by
 unfold qB Z8 qH zM ZW
 repeat' first|apply h|with_reducible refine LeI (fun _=> ?_) _|with_reducible exact Le.refl _|with_reducible refine Le.bind ?_ ?_|with_reducible refine Le.sum ?_ ?_|with_reducible refine Le.sum ?_ ?_ _|with_reducible refine Le.bif _ ?_ ?_|intro _
theorem nodes_n_le: ∀ (k:Nat) (p:Zf) (n m:Int),Le (qd k p n m) (qd (k+1) p n m)
 |0,p,n,m=>fun _ h=>by cases h
 |k+1,p,n,m=>nodes_F_le (fun p n m=>nodes_n_le k p n m) p n m
theorem nodes_n_mono {p:Zf}{n m:Int}{v:Bool}: ∀ {k j:Nat},qd k p n m=some v→qd (k+j) p n m=some v
 |k,0,h=>h
 |k,j+1,h=>nodes_n_le (k+j) p n m _ (nodes_n_mono h)
include ha hb in
theorem nodes_eq (c:Bool){k n m:Nat}(hn:n<a.l.length)(hm:m<b.l.length)(hk:endN a n-n≤k):Jq (Zf.mk (some a) (some b) c) (n:Int) (m:Int)=some (likeB a b c k (n:Int) (m:Int)):=by
 have h:=nodes_n_eq ha hb c k n m hn hm hk
 unfold Jq;refine lim_of (fun i q hq=> ?_) h
 have h1:=nodes_n_mono (j:=k) hq
 have h2:=nodes_n_mono (j:=i) h
 rw [Nat.add_comm,h2] at h1
 cases h1;rfl
include ha hb in
theorem Nodes_in (c:Bool){k n m:Nat}(hn:n<a.l.length)(hm:m<b.l.length)(hk:endN a n-n≤k):ZR (some a) (n:Int) (some b) (m:Int) c=some (likeB a b c k (n:Int) (m:Int)):=by
 unfold ZR
 rw [show decide ((n:Int)<0)=false by rw [decide_eq_false_iff_not];omega,show decide ((m:Int)<0)=false by rw [decide_eq_false_iff_not];omega,Len_eq,Len_eq]
 simp only [cond_false,Option.bind_some]
 rw [show decide ((n:Int)≥(a.l.length:Int))=false by rw [decide_eq_false_iff_not];omega,show decide ((m:Int)≥(b.l.length:Int))=false by rw [decide_eq_false_iff_not];omega]
 simp only [cond_false]
 rw [nodes_eq ha hb c hn hm hk];rfl
end
theorem Nodes_out (a b:qv)(c:Bool){n m:Int}(h:n<0∨m<0∨n≥(a.l.length:Int)∨m≥(b.l.length:Int)):ZR (some a) n (some b) m c=some false:=by
 unfold ZR
 rw [Len_eq,Len_eq]
 simp only [Option.bind_some]
 rcases h with h|h|h|h<;>simp only [h,decide_true,cond_true]
 ·cases decide (n<0)<;>rfl
 ·cases decide (n<0)<;>cases decide (m<0)<;>rfl
 ·cases decide (n<0)<;>cases decide (m<0)<;>cases decide (n≥(a.l.length:Int))<;>rfl
open Go.Lib (decodeL decodeN validD index cut contains replaceK replaceAll)
def targetB:Str→Bool
 |[a,b,c]=>(a.toNat==120||a.toNat==88)&&((b.toNat==109||b.toNat==77)&&(c.toNat==108||c.toNat==76))
 |_=>false
theorem i_n (c:UInt8)(n:Nat):((c.toNat:Int)==(n:Int))=(c.toNat==n):=by
 rw [Bool.eq_iff_iff];simp only [beq_iff_eq];omega
theorem target_eq (s:Str):JH s=some (targetB s):=by
 unfold JH
 by_cases h:s.length=3
 ·obtain ⟨a,b,c,rfl⟩: ∃ a b c,s=[a,b,c]:=by
   match s,h with
   |[a,b,c],_=>exact ⟨a,b,c,rfl⟩
  have a0:at' [a,b,c] 0=some a:=rfl
  have a1:at' [a,b,c] 1=some b:=rfl
  have a2:at' [a,b,c] 2=some c:=rfl
  have e1:((a.toNat:Int)==120)=(a.toNat==120):=i_n a 120
  have e2:((a.toNat:Int)==88)=(a.toNat==88):=i_n a 88
  have e3:((b.toNat:Int)==109)=(b.toNat==109):=i_n b 109
  have e4:((b.toNat:Int)==77)=(b.toNat==77):=i_n b 77
  have e5:((c.toNat:Int)==108)=(c.toNat==108):=i_n c 108
  have e6:((c.toNat:Int)==76)=(c.toNat==76):=i_n c 76
  rw [show ((([a,b,c]:Str).length:Int)==3)=true from rfl]
  simp only [cond_true,a0,a1,a2,Option.bind_some,e1,e2,e3,e4,e5,e6,targetB]
  cases a.toNat==120<;>cases a.toNat==88<;>cases b.toNat==109<;>cases b.toNat==77<;>cases c.toNat==108<;>rfl
 ·rw [show ((s.length:Int)==3)=false by rw [beq_eq_false_iff_ne];omega]
  have:targetB s=false:=by
   unfold targetB
   split
   ·exact absurd rfl h
   ·rfl
  rw [this];rfl
def kindAt (l:List zd)(n:Int):Int:=match l[n.toNat]? with
 |some z=>z.Kind
 |none=>0
def blank1:Str→Bool
 |[]=>false
 |c::_=>isB c
def formedB (l:List zd)(n:Nat)(last:Int)(x:zd):Bool:=
 if x.Kind=1 then x.Text==[]&&(declaredB x.Decls&&namedB l n x)
 else bareB x&&(if x.Kind=2 then x.Local==[]&&(!(x.Text==[])&&(textB x.Text&&(decide (last<0)||kindAt l last != 2)))
  else if x.Kind=3 then x.Local==[]&&(textB x.Text&&(!contains x.Text [45,45]&& !(decide ((1:Nat)≤x.Text.length)&&(x.Text.drop (x.Text.length-1)==[45]))))
  else if x.Kind=4 then nameB x.Local&&(!targetB x.Local&&(textB x.Text&&(!contains x.Text [63,62]&& !blank1 x.Text)))
  else false)
theorem formed_eq (l:List zd)(n:Nat)(x:zd)(last:Int)(hn:l[n]? =some x)(hall: ∀ y∈l,okN y)(hp:ParOk l (n+1))(hla:last<(l.length:Int)):JG l (n:Int) last=some (formedB l n last x):=by
 have hx:=hall x (List.mem_of_getElem? hn)
 unfold JG formedB
 rw [QI,hn]
 simp only [Option.bind_some]
 by_cases k1:x.Kind=1
 ·rw [beq_iff_eq.2 k1,if_pos k1]
  simp only [cond_true]
  rw [declared_eq _ hx.2.2.2.2.1 hx.2.2.2.2.2.2.1,dnamed_eq l n x hn hall hp]
  simp only [Option.bind_some]
  cases x.Text==[]<;>cases declaredB x.Decls<;>rfl
 ·rw [beq_eq_false_iff_ne.2 k1,if_neg k1]
  simp only [cond_false,bare_eq,Option.bind_some]
  rw [dtext_eq _ hx.2.2.2.1,QC _ _ (by have:=hx.2.2.2.1;omega),QC _ _ (by have:=hx.2.2.2.1;omega),HasSuffix_eq _ _ hx.2.2.2.1,Is_eq x.Local (by have:=hx.2.1;omega),target_eq]
  simp only [Option.bind_some]
  have hbl:((bif (!(x.Text==[])) then (at' x.Text 0).bind fun v11=>(ZX v11).bind fun v12=>some v12 else some false):Option Bool)=some (blank1 x.Text):=by
   cases x.Text with
   |nil=>rfl
   |cons c r=>
    have a0:at' (c::r) 0=some c:=rfl
    rw [show (!((c::r:Str)==[]))=true from rfl]
    simp only [cond_true,a0,Option.bind_some,Blank_eq];rfl
  rw [hbl]
  have hl:((bif decide (last<0) then some true else (at' l last).bind fun v6=>some (v6.Kind != 2)):Option Bool)=some (decide (last<0)||kindAt l last != 2):=by
   by_cases h0:last<0
   ·rw [show decide (last<0)=true by rw [decide_eq_true_eq];exact h0];rfl
   ·rw [show decide (last<0)=false by rw [decide_eq_false_iff_not];exact h0]
    obtain ⟨m,rfl⟩: ∃ m:Nat,last=(m:Int):=⟨last.toNat,by omega⟩
    have hm:m<l.length:=by omega
    simp only [cond_false]
    rw [zQ hm]
    unfold kindAt
    rw [Int.toNat_natCast,List.getElem?_eq_getElem hm];rfl
  rw [hl]
  by_cases k2:x.Kind=2
  ·rw [beq_iff_eq.2 k2,if_pos k2]
   cases bareB x<;>cases x.Local==[]<;>cases x.Text==[]<;>cases textB x.Text<;>rfl
  ·rw [beq_eq_false_iff_ne.2 k2,if_neg k2]
   by_cases k3:x.Kind=3
   ·rw [beq_iff_eq.2 k3,if_pos k3]
    cases bareB x<;>cases x.Local==[]<;>cases textB x.Text<;>cases contains x.Text [45,45]<;>rfl
   ·rw [beq_eq_false_iff_ne.2 k3,if_neg k3]
    by_cases k4:x.Kind=4
    ·rw [beq_iff_eq.2 k4,if_pos k4]
     cases bareB x<;>cases nameB x.Local<;>cases targetB x.Local<;>cases textB x.Text<;>cases contains x.Text [63,62]<;>rfl
    ·rw [beq_eq_false_iff_ne.2 k4,if_neg k4]
     cases bareB x<;>rfl
def standsF (l:List zd)(px:Int):Nat→Int→Bool
 |0,_=>false
 |k+1,y=>if y<0 then false else match l[y.toNat]? with
  |none=>false
  |some z=>if y=px then z.Kind==0||z.Kind==1 else standsF l px k z.Parent
theorem standsF_loop (l:List zd)(n:Nat)(x r:zd)(hx:l[n]? =some x)(h0:l[0]? =some r)(hr:r.Parent= -1)(hp:ParOk l n): ∀ (k y:Nat),y+1<k→y<n→((iter (Zu l (n:Int)) (y:Int)).bind (Sum.elim (fun (q6:Bool)=>some q6) (fun (q7:Unit)=>some false)))=some (standsF l x.Parent k (y:Int)):=by
 have hn:n<l.length:=(List.getElem?_eq_some_iff.1 hx).1
 have hat:at' l (n:Int)=some x:=by rw [QI,hx]
 intro k
 induction k with
 |zero=>intro y h;omega
 |succ k ih=>
  intro y h hy
  have hyl:y<l.length:=by omega
  have e:decide ((y:Int)≥0)=true:=by simp
  have hay:at' l (y:Int)=some l[y]:=zQ hyl
  unfold standsF
  rw [if_neg (by omega),Int.toNat_natCast,List.getElem?_eq_getElem hyl]
  dsimp only
  by_cases hq:(y:Int)=x.Parent
  ·rw [if_pos hq,zh (q:= .inl (l[y].Kind==0||l[y].Kind==1)) (by
    unfold Zu
    simp only [e,cond_true,hat,Option.bind_some]
    rw [beq_iff_eq.2 hq]
    simp only [cond_true,hay,Option.bind_some]
    cases l[y].Kind==0<;>rfl)];rfl
  ·rw [if_neg hq,zr (s':=l[y].Parent) (by
    unfold Zu
    simp only [e,cond_true,hat,Option.bind_some]
    rw [beq_eq_false_iff_ne.2 hq]
    simp only [cond_false,hay,Option.bind_some])]
   by_cases y0:y=0
   ·subst y0
    have:l[0]=r:=by rw [List.getElem?_eq_getElem hyl] at h0;exact Option.some.inj h0
    rw [this,hr,zh (q:= .inr ()) rfl]
    cases k with
    |zero=>omega
    |succ k=>rfl
   ·obtain ⟨p0,p1⟩:=hp y l[y] (by omega) hy (List.getElem?_eq_getElem hyl)
    have hpn:((l[y].Parent.toNat:Nat):Int)=l[y].Parent:=by omega
    have:=ih l[y].Parent.toNat (by omega) (by omega)
    rw [hpn] at this
    exact this
theorem stands_eq2 (l:List zd)(n:Nat)(x r:zd)(hx:l[n]? =some x)(h0:l[0]? =some r)(hr:r.Parent= -1)(hp:ParOk l n)(h1:1≤n)(hn:n<4611686018427387904):JE l (n:Int)=some (standsF l x.Parent (n+1) ((n-1:Nat):Int)):=by
 unfold JE
 rw [show w64 ((n:Int)-1)=((n-1:Nat):Int) by rw [qo (by omega)];omega]
 exact standsF_loop l n x r hx h0 hr hp (n+1) (n-1) (by omega) (by omega)
def chkF (l:List zd):Nat→Nat→Int→List Int→Option Int
 |0,_,_,_=>none
 |k+1,n,t,last=>match l[n]? with
  |none=>some t
  |some x=>if standsF l x.Parent (n+1) ((n-1:Nat):Int)&&(formedB l n (gz last x.Parent.toNat) x&&(!(x.Parent==0)|| !(x.Kind==2))) then
   (if x.Parent=0∧x.Kind=1 then (if t>0 then none else chkF l k (n+1) (n:Int) (last.set x.Parent.toNat (n:Int))) else chkF l k (n+1) t (last.set x.Parent.toNat (n:Int)))
   else none
def ansC:Option Int→Unit⊕Int
 |none=> .inl ()
 |some q=> .inr q
theorem chk_loop (l:List zd)(r:zd)(h0:l[0]? =some r)(hr:r.Parent= -1)(hall: ∀ y∈l,okN y)(hlen:l.length<4611686018427387904): ∀ (k n:Nat) (t:Int) (last:List Int),l.length-n<k→1≤n→n≤l.length→ParOk l n→last.length=l.length→(∀ v∈last,v<(n:Int))→
 iter (zy l) (t,((n:Int),last))=some (ansC (chkF l k n t last)):=by
 intro k
 induction k with
 |zero=>intro n t last h1;omega
 |succ k ih=>
  intro n t last h1 h2 h3 hp h5 h6
  unfold chkF
  by_cases hn:n<l.length
  ·have e:decide ((n:Int)<(l.length:Int))=true:=by rw [decide_eq_true_eq];omega
   have hx:l[n]? =some l[n]:=List.getElem?_eq_getElem hn
   rw [hx]
   dsimp only
   generalize l[n]=x at hx
   have hat:at' l (n:Int)=some x:=by rw [QI,hx]
   have s1:=stands_eq2 l n x r hx h0 hr hp h2 (by omega)
   obtain ⟨v,s2,s3⟩:=stands_some l n x r hx h0 hr hp h2 (by omega)
   have hv:v=standsF l x.Parent (n+1) ((n-1:Nat):Int):=by rw [s1] at s2;exact (Option.some.inj s2).symm
   rw [←hv] at s1 ⊢
   cases hvc:v with
   |false=>
    rw [hvc] at s1
    simp only [Bool.false_and]
    refine zh ?_;unfold zy
    simp only [e,cond_true,s1,Option.bind_some,Bool.not_false];rfl
   |true=>
    rw [hvc] at s1
    obtain ⟨p0,p1,p2,p3⟩:=s3 hvc
    have hpn:((x.Parent.toNat:Nat):Int)=x.Parent:=by omega
    have hpl:x.Parent.toNat<last.length:=by omega
    have hla:at' last x.Parent=some (gz last x.Parent.toNat):=by have:=zQ hpl;rw [hpn] at this;rw [this,gz_get hpl]
    have hlv:gz last x.Parent.toNat<(n:Int):=by rw [gz_get hpl];exact h6 _ (List.getElem_mem hpl)
    have hp1:ParOk l (n+1):=fun m y a b c=>by
     by_cases hm:m=n
     ·subst hm;rw [hx] at c;cases c;exact ⟨p0,p1⟩
     ·exact hp m y a (by omega) c
    have f1:=formed_eq l n x (gz last x.Parent.toNat) hx hall hp1 (by omega)
    have hun:doc_under x=some (!(x.Parent==0)|| !(x.Kind==2)):=by
     unfold doc_under
     by_cases hz:x.Parent=0
     ·rw [hz];rfl
     ·rw [show (x.Parent != 0)=true by simpa using hz,beq_eq_false_iff_ne.2 hz];rfl
    simp only [Bool.true_and]
    cases hf:formedB l n (gz last x.Parent.toNat) x with
    |false=>
     rw [hf] at f1
     refine zh ?_;unfold zy
     simp only [e,cond_true,s1,Option.bind_some,Bool.not_true,cond_false,hat,hla,f1,Bool.not_false];rfl
    |true=>
     rw [hf] at f1
     simp only [Bool.true_and]
     cases hu:(!(x.Parent==0)|| !(x.Kind==2)) with
     |false=>
      rw [hu] at hun
      refine zh ?_;unfold zy
      simp only [e,cond_true,s1,Option.bind_some,Bool.not_true,cond_false,hat,hla,f1,hun,Bool.not_false];rfl
     |true=>
      rw [hu] at hun
      rw [if_pos rfl]
      have hput:put last x.Parent (n:Int)=some (last.set x.Parent.toNat (n:Int)):=by have:=put_of hpl (n:Int);rwa [hpn] at this
      have h5':(last.set x.Parent.toNat (n:Int)).length=l.length:=by rw [List.length_set];exact h5
      have h6': ∀ v∈last.set x.Parent.toNat (n:Int),v<((n+1:Nat):Int):=fun v hv=>by
       rcases List.mem_or_eq_of_mem_set hv with h|h
       ·have:=h6 v h;omega
       ·omega
      have hw:w64 ((n:Int)+1)=((n+1:Nat):Int):=zU (by omega)
      by_cases hz:x.Parent=0
      ·by_cases hk:x.Kind=1
       ·rw [if_pos ⟨hz,hk⟩]
        by_cases ht:t>0
        ·rw [if_pos ht]
         refine zh ?_;unfold zy
         simp only [e,cond_true,s1,Option.bind_some,Bool.not_true,cond_false,hat,hla,f1,hun]
         rw [beq_iff_eq.2 hz,beq_iff_eq.2 hk,show decide (t>0)=true by rw [decide_eq_true_eq];exact ht];rfl
        ·rw [if_neg ht,←ih (n+1) (n:Int) _ (by omega) (by omega) (by omega) hp1 h5' h6']
         refine zr ?_;unfold zy
         simp only [e,cond_true,s1,Option.bind_some,Bool.not_true,cond_false,hat,hla,f1,hun]
         rw [beq_iff_eq.2 hz,beq_iff_eq.2 hk,show decide (t>0)=false by rw [decide_eq_false_iff_not];exact ht]
         simp only [cond_true,cond_false,hput,Option.bind_some,hw]
       ·rw [if_neg (fun h=>hk h.2),←ih (n+1) t _ (by omega) (by omega) (by omega) hp1 h5' h6']
        refine zr ?_;unfold zy
        simp only [e,cond_true,s1,Option.bind_some,Bool.not_true,cond_false,hat,hla,f1,hun]
        rw [beq_iff_eq.2 hz,beq_eq_false_iff_ne.2 hk]
        simp only [cond_true,cond_false,hput,Option.bind_some,hw]
      ·rw [if_neg (fun h=>hz h.1),←ih (n+1) t _ (by omega) (by omega) (by omega) hp1 h5' h6']
       refine zr ?_;unfold zy
       simp only [e,cond_true,s1,Option.bind_some,Bool.not_true,cond_false,hat,hla,f1,hun]
       rw [beq_eq_false_iff_ne.2 hz]
       simp only [cond_false,hput,Option.bind_some,hw]
  ·obtain rfl:n=l.length:=by omega
   rw [List.getElem?_eq_none (Nat.le_refl _)]
   refine zh ?_;unfold zy
   have e:decide ((l.length:Int)<(l.length:Int))=false:=by simp
   simp only [e,cond_false];rfl
def checkL:List zd→Int×Bool
 |[]=>(0,false)
 |r::l'=>bif rootB r then headV (ansC (chkF (r::l') (l'.length+2) 1 0 (List.replicate (l'.length+1) (-1)))) else (0,false)
theorem all_replicate: ∀ (n:Nat) (d:List Int),d.length=n→(∀ v∈d,v= -1)→d=List.replicate n (-1)
 |0,d,h,_=>List.length_eq_zero_iff.1 h
 |n+1,d,h,hv=>by
  cases d with
  |nil=>cases h
  |cons a d=>
   rw [List.replicate_succ,hv a (by simp),←all_replicate n d (by simpa using h) (fun v hv'=>hv v (by simp [hv']))]
theorem check_eq (l:List zd)(hall: ∀ y∈l,okN y)(hlen:l.length≤1073741824):Jo l=some (checkL l):=by
 cases l with
 |nil=>rfl
 |cons r l'=>
  show _=some (bif rootB r then headV (ansC (chkF (r::l') (l'.length+2) 1 0 (List.replicate (l'.length+1) (-1)))) else (0,false))
  cases hr:rootB r with
  |false=>rw [head_false r l' hr,cond_false]
  |true=>
   have hr':=hr
   simp only [rootB,Bool.and_eq_true,beq_iff_eq] at hr
   obtain ⟨k0,k1,k2,k3,k4⟩:=hr;obtain ⟨v8,hv8,hl8⟩: ∃ v8:List Int,mk 8 (((r::l':List zd).length:Nat):Int) 0=some v8∧v8.length=(r::l').length:=⟨_,mk_of 0 (by omega),by rw [List.length_replicate];omega⟩;obtain ⟨d',f1,f2,f3⟩:=fill_loop v8 (by omega) v8.length 0 v8 (by omega) (by omega) rfl (by simp)
   have hd':=all_replicate (l'.length+1) d' (by rw [f2,hl8];rfl) f3
   have c:=chk_loop (r::l') r rfl k1 hall (by omega) (l'.length+2) 1 0 d' (by simp) (Nat.le_refl _) (by simp) (fun m x a b=>by omega) (by rw [f2,hl8]) (fun v hv=>by rw [f3 v hv];decide)
   rw [head_true r l' hr' v8 d' _ hv8 f1 c,cond_true,hd']
def wiF (l:List zd):Nat→Nat→List Int→Bool
 |0,_,_=>false
 |k+1,i,dp=>match l[i]? with
  |none=>true
  |some x=>if i=0 then (if gz dp 0>64∨x.Decls.length+x.Attrs.length>64 then false else wiF l k (i+1) dp)
   else (if gz dp x.Parent.toNat+1>64∨x.Decls.length+x.Attrs.length>64 then false else wiF l k (i+1) (dp.set i (gz dp x.Parent.toNat+1)))
def ansW:Bool→Unit⊕Unit
 |true=> .inr ()
 |false=> .inl ()
theorem wi_loop (l:List zd)(hlen:l.length≤4000)(hall: ∀ y∈l,okN y)(hp:ParOk l l.length): ∀ (k i:Nat) (dp:List Int),l.length-i<k→i≤l.length→dp.length=l.length→(∀ v∈dp,0≤v∧v≤(i:Int))→iter (zD l) ((i:Int),dp)=some (ansW (wiF l k i dp)):=by
 intro k
 induction k with
 |zero=>intro i dp h;omega
 |succ k ih=>
  intro i dp h1 h2 h3 h4
  unfold wiF
  by_cases hi:i<l.length
  ·have e:decide ((i:Int)<(l.length:Int))=true:=by rw [decide_eq_true_eq];omega
   have hid:i<dp.length:=by omega
   have hx:l[i]? =some l[i]:=List.getElem?_eq_getElem hi
   have hat:at' l (i:Int)=some l[i]:=zQ hi
   have hok:=hall l[i] (List.getElem_mem hi)
   rw [hx]
   dsimp only
   generalize l[i]=x at hx hat hok
   have hsz:w64 ((x.Decls.length:Int)+(x.Attrs.length:Int))=((x.Decls.length+x.Attrs.length:Nat):Int):=by
    have:=hok.2.2.2.2.1;have:=hok.2.2.2.2.2.1
    rw [qo (by omega)];omega
   have hw:w64 ((i:Int)+1)=((i+1:Nat):Int):=zU (by omega)
   have adi:at' dp (i:Int)=some (gz dp i):=by rw [zQ hid,gz_get hid]
   by_cases h0:i=0
   ·subst h0
    have e0:decide (((0:Nat):Int)>0)=false:=rfl
    rw [if_pos rfl]
    have st:zD l (((0:Nat):Int),dp)=(bif decide (gz dp 0>64) then some (.inr (.inl ())) else (bif decide (((x.Decls.length+x.Attrs.length:Nat):Int)>64) then some (.inr (.inl ())) else some (.inl (((0+1:Nat):Int),dp)))):=by
     unfold zD
     simp only [e,cond_true,hat,Option.bind_some,e0,cond_false,adi,hsz,hw]
    by_cases c1:gz dp 0>64
    ·rw [if_pos (Or.inl c1)]
     rw [show decide (gz dp 0>64)=true by rw [decide_eq_true_eq];exact c1] at st
     exact zh st
    ·rw [show decide (gz dp 0>64)=false by rw [decide_eq_false_iff_not];exact c1] at st
     by_cases c2:x.Decls.length+x.Attrs.length>64
     ·rw [if_pos (Or.inr c2)]
      rw [show decide (((x.Decls.length+x.Attrs.length:Nat):Int)>64)=true by rw [decide_eq_true_eq];omega] at st
      exact zh st
     ·rw [if_neg (by omega)]
      rw [show decide (((x.Decls.length+x.Attrs.length:Nat):Int)>64)=false by rw [decide_eq_false_iff_not];omega] at st
      rw [zr st]
      exact ih (0+1) dp (by omega) (by omega) h3 (fun v hv=>by have:=h4 v hv;omega)
   ·have e0:decide ((i:Int)>0)=true:=by rw [decide_eq_true_eq];omega
    obtain ⟨p0,p1⟩:=hp i x (by omega) hi hx
    have hpl:x.Parent.toNat<dp.length:=by omega
    have hpn:((x.Parent.toNat:Nat):Int)=x.Parent:=by omega
    have adp:at' dp x.Parent=some (gz dp x.Parent.toNat):=by have:=zQ hpl;rw [hpn] at this;rw [this,gz_get hpl]
    have hv0:0≤gz dp x.Parent.toNat∧gz dp x.Parent.toNat≤(i:Int):=by rw [gz_get hpl];exact h4 _ (List.getElem_mem hpl)
    generalize gz dp x.Parent.toNat=g at adp hv0 ⊢
    have hwp:w64 (g+1)=g+1:=qo (by omega)
    have hput:put dp (i:Int) (g+1)=some (dp.set i (g+1)):=put_of hid _
    have ads:at' (dp.set i (g+1)) (i:Int)=some (g+1):=by
     have:=zQ (l:=dp.set i (g+1)) (i:=i) (by rw [List.length_set];exact hid)
     rw [this,List.getElem_set_self]
    rw [if_neg h0]
    have st:zD l ((i:Int),dp)=(bif decide (g+1>64) then some (.inr (.inl ())) else (bif decide (((x.Decls.length+x.Attrs.length:Nat):Int)>64) then some (.inr (.inl ())) else some (.inl (((i+1:Nat):Int),dp.set i (g+1))))):=by
     unfold zD
     simp only [e,cond_true,hat,Option.bind_some,e0,adp,adi,hwp,hput,ads,hsz,hw]
    by_cases c1:g+1>64
    ·rw [if_pos (Or.inl c1)]
     rw [show decide (g+1>64)=true by rw [decide_eq_true_eq];exact c1] at st
     exact zh st
    ·rw [show decide (g+1>64)=false by rw [decide_eq_false_iff_not];exact c1] at st
     by_cases c2:x.Decls.length+x.Attrs.length>64
     ·rw [if_pos (Or.inr c2)]
      rw [show decide (((x.Decls.length+x.Attrs.length:Nat):Int)>64)=true by rw [decide_eq_true_eq];omega] at st
      exact zh st
     ·rw [if_neg (by omega)]
      rw [show decide (((x.Decls.length+x.Attrs.length:Nat):Int)>64)=false by rw [decide_eq_false_iff_not];omega] at st
      rw [zr st]
      refine ih (i+1) _ (by omega) (by omega) (by rw [List.length_set];exact h3) (fun v hv=> ?_)
      rcases List.mem_or_eq_of_mem_set hv with h|h
      ·have:=h4 v h;omega
      ·omega
  ·rw [List.getElem?_eq_none (by omega)]
   refine zh ?_;unfold zD
   have e:decide ((i:Int)<(l.length:Int))=false:=by rw [decide_eq_false_iff_not];omega
   simp only [e,cond_false];rfl
def withinL (l:List zd):Bool:=if l.length>4000 then false else wiF l (l.length+1) 0 (List.replicate l.length 0)
theorem within_eq (l:List zd)(hall: ∀ y∈l,okN y)(hp:ParOk l l.length):JF l=some (withinL l):=by
 unfold JF withinL
 by_cases h:l.length>4000
 ·rw [show decide ((l.length:Int)>4000)=true by rw [decide_eq_true_eq];omega,if_pos h];rfl
 ·rw [show decide ((l.length:Int)>4000)=false by rw [decide_eq_false_iff_not];omega,if_neg h]
  simp only [cond_false]
  have hmk:mk 8 (l.length:Int) (0:Int)=some (List.replicate l.length 0):=by rw [mk_of 0 (by omega),Int.toNat_natCast]
  rw [hmk,Option.bind_some]
  have k1:=wi_loop l (by omega) hall hp (l.length+1) 0 (List.replicate l.length 0) (by omega) (by omega) (by simp) (fun v hv=>by rw [(List.mem_replicate.1 hv).2];decide)
  rw [show iter (zD l) (0,List.replicate l.length 0)=_ from k1,Option.bind_some]
  cases wiF l (l.length+1) 0 (List.replicate l.length 0)<;>rfl
def endF (l:List zd):Nat→List Int→List Int
 |0,en=>en
 |k+1,en=>match l[k]? with
  |none=>en
  |some x=>if x.Parent≥0 then endF l k ((en.set k (mx (gz en k) ((k:Int)+1))).set x.Parent.toNat (mx (gz (en.set k (mx (gz en k) ((k:Int)+1))) x.Parent.toNat) (gz (en.set k (mx (gz en k) ((k:Int)+1))) k))) else endF l k (en.set k (mx (gz en k) ((k:Int)+1)))
theorem endF_loop (l:List zd){t:Int}(hL:ListOk l t)(hlen:l.length≤1073741824): ∀ (k:Nat) (en:List Int),k≤l.length→en.length=l.length→iter (JQ l) ((k:Int)-1,en)=some (endF l k en):=by
 intro k
 induction k with
 |zero=>intro en h1 h2;exact zh rfl
 |succ k ih=>
  intro en h1 h2
  rw [show (((k+1:Nat):Int)-1)=(k:Int) by omega]
  have hk:k<l.length:=by omega
  have hke:k<en.length:=by omega
  have e:decide ((k:Int)≥0)=true:=by simp
  have hx:l[k]? =some l[k]:=List.getElem?_eq_getElem hk
  have hat:at' l (k:Int)=some l[k]:=zQ hk
  unfold endF
  rw [hx]
  dsimp only
  generalize l[k]=x at hx hat
  have ake:at' en (k:Int)=some (gz en k):=by rw [zQ hke,gz_get hke]
  have pke: ∀ v,put en (k:Int) v=some (en.set k v):=fun v=>put_of hke v
  have hwk:w64 ((k:Int)-1)=(k:Int)-1:=qo (by omega)
  have hwk1:w64 ((k:Int)+1)=(k:Int)+1:=qo (by omega)
  by_cases hpar:x.Parent≥0
  ·have hkp:0<k:=by
    rcases Nat.eq_zero_or_pos k with h|h
    ·subst h
     obtain ⟨r',r1,_,r2,_⟩:=hL.root
     rw [r1] at hx;cases hx;omega
    ·exact h
   obtain ⟨p0,p1⟩:=(hL.node k x hkp hk hx).par
   have hpn:((x.Parent.toNat:Nat):Int)=x.Parent:=by omega
   have hEl:(en.set k (mx (gz en k) ((k:Int)+1))).length=l.length:=by rw [List.length_set];exact h2
   rw [if_pos hpar,←ih _ (by omega) (by rw [List.length_set];exact hEl)]
   refine zr ?_;unfold JQ
   simp only [e,cond_true,ake,Option.bind_some,pke,hat,hwk1]
   rw [show decide (x.Parent≥0)=true by rw [decide_eq_true_eq];exact hpar]
   generalize en.set k (mx (gz en k) ((k:Int)+1))=E at hEl ⊢
   have hpl:x.Parent.toNat<E.length:=by omega
   have hkl:k<E.length:=by omega
   have a1:at' E x.Parent=some (gz E x.Parent.toNat):=by have:=zQ hpl;rw [hpn] at this;rw [this,gz_get hpl]
   have a2:at' E (k:Int)=some (gz E k):=by rw [zQ hkl,gz_get hkl]
   have p1': ∀ v,put E x.Parent v=some (E.set x.Parent.toNat v):=fun v=>by have:=put_of hpl v;rwa [hpn] at this
   simp only [cond_true,a1,a2,p1',Option.bind_some,hwk]
  ·rw [if_neg hpar,←ih _ (by omega) (by rw [List.length_set];exact h2)]
   refine zr ?_;unfold JQ
   simp only [e,cond_true,ake,Option.bind_some,pke,hat,hwk1]
   rw [show decide (x.Parent≥0)=false by rw [decide_eq_false_iff_not];exact hpar]
   simp only [cond_false,hwk]
def ofL (l:List zd):Option qv×Int:=bif !(checkL l).2 then (none,2) else bif !withinL l then (none,3) else (some (qv.mk l (endF l l.length (List.replicate l.length 0)) (checkL l).1),0)
theorem Of_eq (l:List zd)(hall: ∀ y∈l,okN y)(hlen:l.length≤1073741824):doc_Of l=some (ofL l):=by
 obtain ⟨v,c1,c2⟩:=check_some l hall hlen
 have c3:=check_eq l hall hlen
 have hv:v=checkL l:=by rw [c1] at c3;exact Option.some.inj c3
 unfold doc_Of ofL
 rw [c3,Option.bind_some]
 cases h:(checkL l).2 with
 |false=>rfl
 |true=>
  have hL:=c2 (by rw [hv];exact h)
  rw [hv] at hL
  have hp:ParOk l l.length:=fun m x a b c=>(hL.node m x a b c).par
  simp only [Bool.not_true,cond_false]
  rw [within_eq l hall hp,Option.bind_some]
  cases hw:withinL l with
  |false=>rfl
  |true=>
   have hl1:1≤l.length:=by
    obtain ⟨r,h0,_⟩:=hL.root
    have:=(List.getElem?_eq_some_iff.1 h0).1;omega
   have hmk:mk 8 (l.length:Int) (0:Int)=some (List.replicate l.length 0):=by rw [mk_of 0 (by omega),Int.toNat_natCast]
   have hc:=copy_loop l hall hlen l.length 0 (by omega) (by omega)
   rw [List.take_zero] at hc
   simp only [Bool.not_true,cond_false]
   rw [hmk,Option.bind_some,show iter (JO l) (0,[])=some l from hc,Option.bind_some,qo (by omega),endF_loop l hL hlen l.length _ (Nat.le_refl _) (by simp),Option.bind_some]
def rootN:zd:=zd.mk 0 (-1) [] [] [] [] [] []
def parseL (b:Str):Option qv×Int:=
 if b.length>65536 then (none,3) else bif !textB b then (none,2) else bif !(declL (lines b)).1 then (none,2) else
  match runL ((declL (lines b)).2.length+1) (declL (lines b)).2 true [rootN] [] [] with
  |none=>(none,2)
  |some q=>if q.2.2.2.1=[] then ofL q.2.2.1 else (none,2)
theorem Parse_eq (b:Str):Zw b=some (parseL b):=by
 unfold Zw parseL
 by_cases hb:b.length>65536
 ·rw [show decide ((b.length:Int)>65536)=true by rw [decide_eq_true_eq];omega,if_pos hb];rfl
 ·rw [show decide ((b.length:Int)>65536)=false by rw [decide_eq_false_iff_not];omega,Text_eq b (by omega),if_neg hb]
  simp only [cond_false,Option.bind_some]
  cases ht:textB b with
  |false=>rfl
  |true=>
   have hl:=lines_len b
   rw [Lines_eq b (by omega)]
   simp only [Bool.not_true,cond_false,Option.bind_some]
   obtain ⟨v3,d1,d2,d3⟩:=declaration_eq true false [(zd.mk 0 (-1) [] [] [] [] [] [])] [] [] (lines b) (by omega) (lines_text ht)
   rw [d1,←d2]
   simp only [Option.bind_some]
   cases h3:v3.1 with
   |false=>rfl
   |true=>
    obtain ⟨l3,t3⟩:=d3 h3
    have hI:Inv 65536 v3.2 [(zd.mk 0 (-1) [] [] [] [] [] [])] [] []:=⟨t3,by simp;omega,by simp,by simp,(fun o ho=>by cases ho),(fun y hy=>by
     obtain rfl:=List.mem_singleton.1 hy
     exact ⟨Nat.zero_le _,Nat.zero_le _,Nat.zero_le _,Nat.zero_le _,Nat.zero_le _,Nat.zero_le _,by simp,by simp⟩),by simp;omega⟩
    obtain ⟨r1,r2⟩:=run_loop (N:=65536) (by omega) (v3.2.length+1) v3.2 true [(zd.mk 0 (-1) [] [] [] [] [] [])] [] [] (by omega) hI
    simp only [Bool.not_true,cond_false]
    rw [r1]
    show _=some (match runL (v3.2.length+1) v3.2 true [(zd.mk 0 (-1) [] [] [] [] [] [])] [] [] with|none=>(none,2)|some q=>if q.2.2.2.1=[] then ofL q.2.2.1 else (none,2))
    cases hq:runL (v3.2.length+1) v3.2 true [(zd.mk 0 (-1) [] [] [] [] [] [])] [] [] with
    |none=>rfl
    |some q=>
     obtain ⟨nb',l',p',x',rfl,hI'⟩:=r2 q hq
     simp only [Option.bind_some,Sum.elim_inr]
     by_cases hp:p'=[]
     ·subst hp
      rw [if_pos rfl]
      simp only [List.length_nil,show decide ((((0:Nat):Int))>0)=false from rfl,cond_false]
      have hl':=hI'.hl
      rw [Of_eq l' hI'.hn (by simp at hl';omega)];rfl
     ·have:0<p'.length:=List.length_pos_iff.2 hp
      rw [if_neg hp,show decide ((p'.length:Int)>0)=true by rw [decide_eq_true_eq];omega];rfl
theorem chkF_formed (l:List zd): ∀ (k n:Nat) (t:Int) (last:List Int) (q:Int),chkF l k n t last=some q→ ∀ m x,n≤m→l[m]? =some x→ ∃ la,formedB l m la x=true
 |0,n,t,last,q,h=>by cases h
 |k+1,n,t,last,q,h=>by
  intro m x hm hx
  unfold chkF at h
  cases hn:l[n]? with
  |none=>
   exfalso
   have h1:=List.getElem?_eq_none_iff.1 hn
   have h2:=(List.getElem?_eq_some_iff.1 hx).1
   omega
  |some y=>
   rw [hn] at h
   dsimp only at h
   split at h
   ·rename_i hc
    rw [Bool.and_eq_true,Bool.and_eq_true] at hc
    by_cases e:m=n
    ·subst e
     rw [hn] at hx;cases hx
     exact ⟨_,hc.2.1⟩
    ·split at h
     ·split at h
      ·cases h
      ·exact chkF_formed l k (n+1) _ _ q h m x (by omega) hx
     ·exact chkF_formed l k (n+1) _ _ q h m x (by omega) hx
   ·cases h
theorem checkL_formed {l:List zd}(h:(checkL l).2=true): ∀ m x,0<m→l[m]? =some x→ ∃ la,formedB l m la x=true:=by
 cases l with
 |nil=>cases h
 |cons r l'=>
  unfold checkL at h
  dsimp only at h
  cases hr:rootB r with
  |false=>rw [hr] at h;cases h
  |true=>
   rw [hr,cond_true] at h
   cases hc:chkF (r::l') (l'.length+2) 1 0 (List.replicate (l'.length+1) (-1)) with
   |none=>rw [hc] at h;cases h
   |some q=>exact fun m x hm hx=>chkF_formed _ _ _ _ _ q hc m x hm hx
theorem ofL_formed {l:List zd}{d:qv}{e:Int}(h:ofL l=(some d,e)):d.l=l∧(checkL l).2=true:=by
 unfold ofL at h
 cases hc:(checkL l).2 with
 |false=>rw [hc] at h;cases h
 |true=>
  rw [hc] at h
  simp only [Bool.not_true,cond_false] at h
  cases hw:withinL l with
  |false=>rw [hw] at h;cases h
  |true=>rw [hw] at h;cases h;exact ⟨rfl,rfl⟩
theorem parseL_of {b:Str}{d:qv}{e:Int}(h:parseL b=(some d,e)): ∃ l,ofL l=(some d,e):=by
 unfold parseL at h
 split at h
 ·cases h
 ·cases ht:textB b with
  |false=>rw [ht] at h;cases h
  |true=>
   rw [ht] at h
   simp only [Bool.not_true,cond_false] at h
   cases hd:(declL (lines b)).1 with
   |false=>rw [hd] at h;cases h
   |true=>
    rw [hd] at h
    simp only [Bool.not_true,cond_false] at h
    split at h
    ·cases h
    ·split at h
     ·exact ⟨_,h⟩
     ·cases h
theorem Parse_full (b:Str): ∃ v,Zw b=some v∧((v.1=none∧(v.2=2∨v.2=3))∨(∃ d,v.1=some d∧v.2=0∧DocOk d∧ ∀ m x,0<m→d.l[m]? =some x→ ∃ la,formedB d.l m la x=true)):=by
 obtain ⟨v,hv,h⟩:=Parse_some b;refine ⟨v,hv,?_⟩
 rcases h with h|⟨d,h1,h2,hd⟩
 ·exact Or.inl h
 ·refine Or.inr ⟨d,h1,h2,hd,?_⟩
  rw [Parse_eq] at hv
  have hv:=Option.some.inj hv
  have:parseL b=(some d,v.2):=by rw [hv,←h1]
  obtain ⟨l,hl⟩:=parseL_of this;obtain ⟨e1,e2⟩:=ofL_formed hl
  rw [e1]
  exact checkL_formed e2
def itC (d:qv)(k:Int):qb:=bif (nodeD d k).Kind==2 then qb.mk 0 (nodeD d k).Text true else qb.mk k [] false
theorem items_map (d:qv): ∀ (ks:List Int) (i:Nat) (out:List qb),gath (fun _ k out=>addI true k (nodeD d k) out) i ks out=out++ks.map (itC d)
 |[],_,out=>by simp [gath]
 |k::r,i,out=>by
  unfold gath
  rw [items_map d r (i+1),List.map_cons]
  have:addI true k (nodeD d k) out=out++[itC d k]:=by
   unfold addI itC
   simp only [Bool.not_true,Bool.and_false,Bool.false_and,cond_false]
   cases (nodeD d k).Kind==2<;>rfl
  rw [this];simp
theorem itemsL_true (d:qv)(ks:List Int):itemsL d true ks []=ks.map (itC d):=by unfold itemsL;rw [items_map];rfl
theorem all2_map {α β γ δ:Type}(p:γ→δ→Bool)(f:α→γ)(g:β→δ): ∀ (l:List α) (m:List β),all2 p (l.map f) (m.map g)=all2 (fun x y=>p (f x) (g y)) l m
 |[],[]=>rfl
 |a::l,b::m=>by show (p (f a) (g b)&&all2 p (l.map f) (m.map g))=_;rw [all2_map p f g l m];rfl
 |[],b::m=>rfl
 |a::l,[]=>rfl
def sizes (d:qv)(ks:List Int):Nat:=ks.foldr (fun k s=>(endN d k.toNat-k.toNat)+s) 0
theorem sizes_kidsF {d:qv}(hd:DocOk d){n:Nat}(hn:n<d.l.length): ∀ (f m:Nat),endN d n-m<f→n<m→m≤endN d n→sizes d (kidsF d (endN d n) f m)=endN d n-m
 |0,m,h,_,_=>by omega
 |f+1,m,h,h1,h2=>by
  have hE:=(qp hd hn).2.2.1
  unfold kidsF
  by_cases hm:m<endN d n
  ·have hml:m<d.l.length:=by omega
   have hnest:=end_nest hd hn (Nat.le_of_lt h1) hm
   obtain ⟨_,b1,_⟩:=qp hd hml
   rw [if_pos hm]
   show (endN d ((m:Int)).toNat-((m:Int)).toNat)+sizes d (kidsF d (endN d n) f (endN d m))=_
   rw [Int.toNat_natCast,sizes_kidsF hd hn f (endN d m) (by omega) (by omega) hnest]
   omega
  ·rw [if_neg hm]
   show 0=_
   omega
theorem size_kids {d:qv}(hd:DocOk d){n:Nat}(hn:n<d.l.length):endN d n-n=sizes d (kidsN d n)+1:=by
 have h1:=(qp hd hn).2.1
 have h2:=(qp hd hn).2.2.1
 unfold kidsN
 rw [sizes_kidsF hd hn (d.l.length+1) (n+1) (by omega) (by omega) (by omega)]
 omega
theorem kids_leaf {d:qv}{n:Nat}(h:endN d n=n+1):kidsN d n=[]:=by
 unfold kidsN kidsF
 rw [h,if_neg (by omega)]
section
variable {a b:qv} (ha:DocOk a) (hb:DocOk b) (fa: ∀ m x,0<m→a.l[m]? =some x→ ∃ la,formedB a.l m la x=true) (fb: ∀ m x,0<m→b.l[m]? =some x→ ∃ la,formedB b.l m la x=true)
include ha fa in
theorem text_node {m:Nat}{x:zd}(h0:0<m)(hx:a.l[m]? =some x)(hk:x.Kind=2):x.Local=[]∧x.Prefix=[]∧x.URI=[]∧x.Attrs=[]∧endN a m=m+1:=by
 obtain ⟨la,h⟩:=fa m x h0 hx;unfold formedB at h
 rw [if_neg (by omega),if_pos hk] at h
 unfold bareB at h
 simp only [Bool.and_eq_true,beq_iff_eq] at h
 obtain ⟨⟨h1,h2,h3,h4⟩,h5,_⟩:=h;exact ⟨h5,h1,h2,List.length_eq_zero_iff.1 (by omega),end_leaf ha hx (by omega) (by omega)⟩
include ha hb fa fb in
theorem pair_ok (K:Nat){i j:Nat}(hi:i<a.l.length)(hj:j<b.l.length)(i0:0<i)(j0:0<j)(hK:endN a i-i≤K)(h:itemB (likeB a b true K) (itC a (i:Int)) (itC b (j:Int))=true):likeB a b true K (i:Int) (j:Int)=true:=by
 have hx:a.l[i]? =some a.l[i]:=List.getElem?_eq_getElem hi
 have hy:b.l[j]? =some b.l[j]:=List.getElem?_eq_getElem hj
 generalize a.l[i]=x at hx
 generalize b.l[j]=y at hy
 unfold itemB itC at h
 rw [nodeD_in hx,nodeD_in hy] at h
 cases hkx:(x.Kind==2) with
 |true=>
  rw [hkx] at h
  cases hky:(y.Kind==2) with
  |true=>
   rw [hky] at h
   have ht:x.Text=y.Text:=by simpa using h
   obtain ⟨x1,x2,x3,x4,x5⟩:=text_node ha fa i0 hx (beq_iff_eq.1 hkx);obtain ⟨y1,y2,y3,y4,y5⟩:=text_node hb fb j0 hy (beq_iff_eq.1 hky)
   cases K with
   |zero=>omega
   |succ K=>
    unfold likeB headB attB
    rw [nodeD_in hx,nodeD_in hy,Int.toNat_natCast,Int.toNat_natCast,kids_leaf x5,kids_leaf y5,x1,x2,x3,x4,y1,y2,y3,y4,ht,beq_iff_eq.1 hkx,beq_iff_eq.1 hky]
    simp [itemsL,gath,all2]
  |false=>rw [hky] at h;cases h
 |false=>
  rw [hkx] at h
  cases hky:(y.Kind==2) with
  |true=>rw [hky] at h;cases h
  |false=>rw [hky] at h;exact h
include ha hb fa fb in
theorem like_kids {K n m:Nat}(hn:n<a.l.length)(hm:m<b.l.length)(hK:endN a n-n≤K+1)(h:likeB a b true (K+1) (n:Int) (m:Int)=true):
 (kidsN a n).length=(kidsN b m).length∧all2 (likeB a b true K) (kidsN a n) (kidsN b m)=true:=by
 unfold likeB at h
 rw [Bool.and_eq_true,Int.toNat_natCast,Int.toNat_natCast,itemsL_true,itemsL_true,all2_map] at h
 have hl:=all2_len h.2
 refine ⟨hl,?_⟩
 have key: ∀ (ks js:List Int),(∀ k∈ks,k∈kidsN a n)→(∀ k∈js,k∈kidsN b m)→all2 (fun x y=>itemB (likeB a b true K) (itC a x) (itC b y)) ks js=true→all2 (likeB a b true K) ks js=true:=by
  intro ks
  induction ks with
  |nil=>intro js _ _ h;cases js with
   |nil=>rfl
   |cons j js=>cases h
  |cons k ks ih=>
   intro js h1 h2 h
   cases js with
   |nil=>cases h
   |cons j js=>
    unfold all2 at h ⊢
    rw [Bool.and_eq_true] at h ⊢
    obtain ⟨i,e1,i1,i2,i3,_⟩:=kidsN_in ha hn k (h1 k List.mem_cons_self);obtain ⟨i',e2,j1,j2,j3,_⟩:=kidsN_in hb hm j (h2 j List.mem_cons_self)
    subst e1 e2
    have:=(qp ha i1).2.1
    exact ⟨pair_ok ha hb fa fb K i1 j1 (by omega) (by omega) (by omega) h.1,ih js (fun k hk=>h1 k (List.mem_cons_of_mem _ hk)) (fun k hk=>h2 k (List.mem_cons_of_mem _ hk)) h.2⟩
 exact key _ _ (fun _ h=>h) (fun _ h=>h) h.2
include ha hb fa fb in
theorem like_size: ∀ (K n m:Nat),n<a.l.length→m<b.l.length→endN a n-n≤K→likeB a b true K (n:Int) (m:Int)=true→endN a n-n=endN b m-m
 |0,n,m,hn,hm,hK,h=>by cases h
 |K+1,n,m,hn,hm,hK,h=>by
  obtain ⟨_,h2⟩:=like_kids ha hb fa fb hn hm hK h
  rw [size_kids ha hn,size_kids hb hm]
  have key: ∀ (ks js:List Int),(∀ k∈ks,k∈kidsN a n)→(∀ k∈js,k∈kidsN b m)→all2 (likeB a b true K) ks js=true→sizes a ks=sizes b js:=by
   intro ks
   induction ks with
   |nil=>intro js _ _ h;cases js with
    |nil=>rfl
    |cons j js=>cases h
   |cons k ks ih=>
    intro js h1 h2 h
    cases js with
    |nil=>cases h
    |cons j js=>
     unfold all2 at h
     rw [Bool.and_eq_true] at h
     obtain ⟨i,e1,i1,i2,i3,_⟩:=kidsN_in ha hn k (h1 k List.mem_cons_self);obtain ⟨i',e2,j1,j2,j3,_⟩:=kidsN_in hb hm j (h2 j List.mem_cons_self)
     subst e1 e2
     have:=(qp ha i1).2.1
     have hs:=like_size K i i' i1 j1 (by omega) h.1
     show (endN a ((i:Int)).toNat-((i:Int)).toNat)+sizes a ks=(endN b ((i':Int)).toNat-((i':Int)).toNat)+sizes b js
     rw [Int.toNat_natCast,Int.toNat_natCast,hs,ih js (fun k hk=>h1 k (List.mem_cons_of_mem _ hk)) (fun k hk=>h2 k (List.mem_cons_of_mem _ hk)) h.2]
  rw [key _ _ (fun _ h=>h) (fun _ h=>h) h2]
include ha hb in
theorem below_loop {n m:Nat}(hn:n<a.l.length)(hm:m<b.l.length)(e f:Int)(K:Nat)(hK:endN a n-n≤K+1)(h:all2 (likeB a b true K) (kidsN a n) (kidsN b m)=true):iter (z8 (some a,e) (some b,f) (kidsN a n) (kidsN b m)) 0=some (.inr ()):=by
 have hl:=all2_len h
 have hmany:=ha.many
 have hka:(kidsN a n).length≤4001:=by
  have:=kidsF_len a (endN a n) (a.l.length+1) (n+1)
  unfold kidsN;omega
 have:=scan_list (kidsN a n) (z8 (some a,e) (some b,f) (kidsN a n) (kidsN b m)) (fun _ _=>none) (.inr ()) (fun i hi=>by
  have hi2:i<(kidsN b m).length:=by omega
  have hw:w64 ((i:Int)+1)=((i+1:Nat):Int):=zU (by omega)
  have hp:=all2_get h i _ _ (List.getElem?_eq_getElem hi) (List.getElem?_eq_getElem hi2)
  obtain ⟨p,e1,i1,i2,i3,_⟩:=kidsN_in ha hn _ (List.getElem_mem hi);obtain ⟨q,e2,j1,j2,j3,_⟩:=kidsN_in hb hm _ (List.getElem_mem hi2);unfold z8
  rw [lt_dec hi,cond_true,zQ hi,Option.bind_some,zQ hi2,Option.bind_some]
  rw [e1,e2] at hp ⊢
  simp only
  have:=(qp ha i1).2.1
  rw [Nodes_in ha hb true i1 j1 (k:=K) (by omega),hp,Option.bind_some,hw]
  rfl) (by unfold z8;rw [len_dec];rfl)
 rw [this]
 congr 1
 generalize kidsN a n=l
 generalize (0:Nat)=i
 induction l generalizing i with
 |nil=>rfl
 |cons x r ih=>unfold firstL;exact ih (i+1)
end
def dP:qv:=qv.mk [rootN,zd.mk 1 0 [] [97] [] [] [] [zw.mk [] [120] [] [49],zw.mk [] [121] [] [50]]] [2,2] 1
def dQ:qv:=qv.mk [rootN,zd.mk 1 0 [] [97] [] [] [] [zw.mk [] [121] [] [50],zw.mk [] [120] [] [49]]] [2,2] 1
theorem parseP:parseL [60,97,32,120,61,39,49,39,32,121,61,39,50,39,47,62]=(some dP,0):=by kernel_rfl
theorem parseQ:parseL [60,97,32,121,61,39,50,39,32,120,61,39,49,39,62,60,47,97,62]=(some dQ,0):=by kernel_rfl
theorem likePQ:likeB dP dQ true 2 ((0:Nat):Int) ((0:Nat):Int)=true:=by kernel_rfl
theorem ok_of {b:Str}{d:qv}(h:parseL b=(some d,0)):DocOk d:=by
 obtain ⟨v,hv,h'⟩:=Parse_some b
 rw [Parse_eq,h] at hv
 cases hv
 rcases h' with ⟨h1,_⟩|⟨d',h1,_,hd⟩
 ·cases h1
 ·cases h1;exact hd
theorem awake31:qR=some true:=by
 unfold qR
 rw [Parse_eq,parseP,Option.bind_some,Parse_eq,parseQ,Option.bind_some]
 dsimp only
 have h:=Nodes_in (ok_of parseP) (ok_of parseQ) true (k:=2) (n:=0) (m:=0) (by decide) (by decide) (by decide)
 unfold alike_Docs
 rw [show ZR (some dP) 0 (some dQ) 0 true=_ from h,likePQ]
 rfl
theorem alikeBelow_plain (s t:List UInt8)(n m:Int):Zk s t n m=some true:=by
 unfold Zk
 rw [awake31]
 simp only [Option.bind_some,Bool.not_true,cond_false]
 cases decide (w64 ((s.length:Int)+(t.length:Int))>1000) with
 |true=>rfl
 |false=>
  simp only [cond_false]
  obtain ⟨v,hv,h⟩:=Parse_full s;obtain ⟨u,hu,h'⟩:=Parse_full t
  rw [hv,hu]
  simp only [Option.bind_some]
  obtain ⟨v1,v2⟩:=v;obtain ⟨u1,u2⟩:=u
  rcases h with ⟨h1,h2⟩|⟨a,h1,h2,ha,fa⟩
  ·dsimp only at h1 h2
   rcases h2 with h2|h2<;>subst h2<;>rfl
  ·dsimp only at h1 h2
   subst h1 h2
   rcases h' with ⟨h1,h2⟩|⟨b,h1,h2,hb,fb⟩
   ·dsimp only at h1 h2
    rcases h2 with h2|h2<;>subst h2<;>rfl
   ·dsimp only at h1 h2
    subst h1 h2
    dsimp only
    rw [show ((0:Int) != 0)=false from rfl]
    simp only [cond_false]
    by_cases g:n<0∨m<0∨n≥(a.l.length:Int)∨m≥(b.l.length:Int)
    ·rw [Nodes_out a b true g];rfl
    ·obtain ⟨n,rfl⟩: ∃ i:Nat,n=(i:Int):=⟨n.toNat,by omega⟩;obtain ⟨m,rfl⟩: ∃ i:Nat,m=(i:Int):=⟨m.toNat,by omega⟩
     have hn:n<a.l.length:=by omega
     have hm:m<b.l.length:=by omega
     have e1:=(qp ha hn).2.1
     have e2:=(qp ha hn).2.2.1
     have e3:=(qp hb hm).2.1
     have e4:=(qp hb hm).2.2.1
     have m1:=ha.many
     have m2:=hb.many
     rw [Nodes_in ha hb true hn hm (k:=endN a n-n-1+1) (by omega)]
     simp only [Option.bind_some]
     cases hlk:likeB a b true (endN a n-n-1+1) (n:Int) (m:Int) with
     |false=>rfl
     |true=>
      obtain ⟨k1,k2⟩:=like_kids ha hb fa fb hn hm (by omega) hlk
      have k3:=like_size ha hb fa fb (endN a n-n-1+1) n m hn hm (by omega) hlk
      have hl:=below_loop ha hb hn hm 0 0 (endN a n-n-1) (by omega) k2
      simp only [Bool.not_true,Option.bind_some,cond_false]
      rw [Kids_in ha hn,Kids_in hb hm,Option.bind_some,Option.bind_some]
      rw [show kidsF a (endN a n) (a.l.length+1) (n+1)=kidsN a n from rfl,show kidsF b (endN b m) (b.l.length+1) (m+1)=kidsN b m from rfl,k1]
      rw [End_in ha hn,End_in hb hm]
      simp only [Option.bind_some]
      rw [show (((kidsN b m).length:Int) != ((kidsN b m).length:Int))=false by simp]
      simp only [cond_false]
      rw [show w64 ((endN a n:Int)-(n:Int))=((endN a n-n:Nat):Int) by rw [qo (by omega)];omega,show w64 ((endN b m:Int)-(m:Int))=((endN b m-m:Nat):Int) by rw [qo (by omega)];omega,k3]
      simp only [bne_self_eq_false,Option.bind_some,cond_false]
      rw [hl];rfl
end G
