/-
  CALLS of contracts whose objects bear names of their own; frozen and borrowed rows as they are. Generic over the program. Conditions: none.
-/
import Derived.Test.YtipbfnjpfmmkfaaGreatDoorAbsX
set_option linter.unusedVariables false
set_option linter.unusedSectionVars false
namespace Go.Abs
open Go
variable [GTab]

/-! ### What was moved: nothing is known of its old places -/
def kiL (ms : List Nat) : AV → AV
  | .nptr z b o => match mem b ms with | true => .junk | false => .nptr z b o
  | .sl b o n => match mem b ms with | true => .junk | false => .sl b o n
  | .mp b => match mem b ms with | true => .junk | false => .mp b
  | .it b => match mem b ms with | true => .junk | false => .it b
  | x => x
def kiT (ms : List Nat) (T : List (Nat × AV)) : List (Nat × AV) := match ms with | [] => T | a :: r => mapT (kiL (a :: r)) T
def kiH (ms : List Nat) (H : List (Nat × AObj)) : List (Nat × AObj) := match ms with | [] => H | a :: r => mapH (kiL (a :: r)) H
theorem kiL_nil (x : AV) : kiL [] x = x := by cases x <;> rfl
mutual
theorem mapN_same {f : AV → AV} (h : ∀ x, f x = x) : ∀ x : AV, x.mapN f = x
  | .agg cs => by rw [AV.mapN, mapNL_same h cs]
  | .tup cs => by rw [AV.mapN, mapNL_same h cs]
  | .fn g cs ds => by rw [AV.mapN, mapNL_same h cs, mapNL_same h ds]
  | .ifc t x => by rw [AV.mapN, mapN_same h x]
  | .nptr z b o => by rw [AV.mapN, h]
  | .sl b o n => by rw [AV.mapN, h]
  | .mp b => by rw [AV.mapN, h]
  | .it b => by rw [AV.mapN, h]
  | .pl v => rfl
  | .optr z cs => rfl
  | .vs n cs => rfl
  | .vm _ _ => rfl
  | .anyp => rfl
  | .junk => rfl
  | .gone => rfl
theorem mapNL_same {f : AV → AV} (h : ∀ x, f x = x) : ∀ l : List AV, AV.mapNL f l = l
  | [] => rfl
  | x :: r => by rw [AV.mapNL, mapN_same h x, mapNL_same h r]
end
theorem objN_same {f : AV → AV} (h : ∀ x, f x = x) (o : AObj) : o.mapN f = o := by
  cases o <;> simp [AObj.mapN, mapNL_same h]
theorem get_kiT (ms : List Nat) (T : List (Nat × AV)) (i : Nat) : get (kiT ms T) i = (get T i).map (AV.mapN (kiL ms)) := by
  cases ms with
  | nil =>
    show get T i = _
    cases get T i with
    | none => rfl
    | some x => rw [Option.map_some, mapN_same kiL_nil]
  | cons a r => exact get_mapT _ T i
theorem hget_kiH (ms : List Nat) (H : List (Nat × AObj)) (i : Nat) : hget (kiH ms H) i = (hget H i).map (AObj.mapN (kiL ms)) := by
  cases ms with
  | nil =>
    show hget H i = _
    cases hget H i with
    | none => rfl
    | some x => rw [Option.map_some, objN_same kiL_nil]
  | cons a r => exact hget_mapH _ H i

/-- What is known behind a call that was given the objects of the names ns, some of which were moved. -/
theorem SatB_calledX {c : Ctx} {s : St} {β : Emb} {a : Act} {w w' : World} (hs : SatB c s β a w) {ns mv : List Nat} {β1 : Emb} {H1 : List (Nat × AObj)}
    (hH : HRel (Fout c.F ns β) β1 H1 w') (hk : Keeps (cut ns β) w β1 w') (hstay : ∀ b p, cut ns β b = some p → mem b mv = false → β1 b = some p) (hap : hapart H1 (hrest ns s.H) = true) :
    SatB c ⟨kiT mv s.T, H1 ++ kiH mv (hrest ns s.H), mv ++ s.M⟩ (join β1 (rst ns β)) a w' ∧ ∀ x v, VRel (Fout c.F ns β) β1 w' x v → VRel c.F (join β1 (rst ns β)) w' x v := by
  have hclash : ∀ b p q, β1 b = some p → rst ns β b = some q → False := fun b p q h1 h2 => by
    obtain ⟨o, ho⟩ := hH.dom b p h1
    obtain ⟨hm, h2⟩ := rst_some.1 h2
    obtain ⟨o', ho'⟩ := hs.heap.dom b q h2
    have := hapart_get hap ho
    rw [hget_hrest, hm] at this
    simp at this
    rw [this] at ho'; cases ho'
  have hj1 : ∀ b p, β1 b = some p → join β1 (rst ns β) b = some p := fun b p h => by simp only [join, h]
  have hj2 : ∀ b p, rst ns β b = some p → join β1 (rst ns β) b = some p := fun b p h => by
    cases h1 : β1 b with
    | some q => exact (hclash b q p h1 h).elim
    | none => simp only [join, h1]; exact h
  have hinv : ∀ b p, join β1 (rst ns β) b = some p → β1 b = some p ∨ rst ns β b = some p := fun b p h => by
    simp only [join] at h
    cases h1 : β1 b with
    | some q => rw [h1] at h; cases h; exact .inl rfl
    | none => rw [h1] at h; exact .inr h
  have hβ : ∀ b p, mem b mv = false → β b = some p → join β1 (rst ns β) b = some p := fun b p hmv h => by
    cases hm : mem b ns with
    | true => exact hj1 b p (hstay b p (cut_some.2 ⟨hm, h⟩) hmv)
    | false => exact hj2 b p (rst_some.2 ⟨hm, h⟩)
  have hown : ∀ k, own (join β1 (rst ns β)) k → own β k ∨ w.heap.size ≤ k := by
    rintro k ⟨b, p, hp, hn, hkk⟩
    rcases hinv b p hp with h | h
    · exact (hk.grows k ⟨b, p, h, hn, hkk⟩).imp (own_mono fun b p hp => (cut_some.1 hp).2) id
    · exact .inl ⟨b, p, (rst_some.1 h).2, hn, hkk⟩
  have hO : ∀ k, off c.F (join β1 (rst ns β)) k → off c.F β k ∨ w.heap.size ≤ k := fun k h => h.elim (fun h => .inl (.inl h)) (fun h => (hown k h).imp .inr id)
  have hO1 : ∀ k, off c.F (join β1 (rst ns β)) k → off (Fout c.F ns β) β1 k := by
    rintro k (h | ⟨b, p, hp, hn, hkk⟩)
    · exact .inl (.inl h)
    · rcases hinv b p hp with h | h
      · exact .inr ⟨b, p, h, hn, hkk⟩
      · exact .inl (.inr ⟨b, p, h, hn, hkk⟩)
  have hw : ∀ k, k < w.heap.size → ¬ off c.F β k → w'.heap[k]? = w.heap[k]? := fun k hk' hno => hk.block k hk' (fun h => hno (.inr (own_mono (fun b p hp => (cut_some.1 hp).2) h)))
  have hleaf : ∀ x v, x.leaf = true → VRel c.F β w x v → VRel c.F (join β1 (rst ns β)) w' (kiL mv x) v := by
    intro x v hx hv
    have h1c := oneCell_own hx hv
    cases hv with
    | ptr hp hn =>
      simp only [kiL]; split
      · exact .junk h1c
      · rename_i e; exact .ptr (hβ _ _ e hp) hn
    | pnil =>
      simp only [kiL]; split
      · exact .junk h1c
      · exact .pnil
    | sl hp hn hc hl =>
      simp only [kiL]; split
      · exact .junk h1c
      · rename_i e; exact .sl (hβ _ _ e hp) hn hc hl
    | slz hp ha =>
      simp only [kiL]; split
      · exact .junk h1c
      · rename_i e; exact .slz (hβ _ _ e hp) ha
    | mp hp hn =>
      simp only [kiL]; split
      · exact .junk h1c
      · rename_i e; exact .mp (hβ _ _ e hp) hn
    | it hp hn =>
      simp only [kiL]; split
      · exact .junk h1c
      · rename_i e; exact .it (hβ _ _ e hp) hn
    | c h => cases h <;> cases hx
    | agg => cases hx
    | tup => cases hx
    | fn => cases hx
    | ifc => cases hx
    | anyp => cases hx
    | junk => cases hx
    | gone => cases hx
  have hup : ∀ x v, VRel (Fout c.F ns β) β1 w' x v → VRel c.F (join β1 (rst ns β)) w' x v := fun x v h => by
    induction h with
    | c h => exact .c (h.mono (Nat.le_refl _) (fun k hk => .inl (hO1 k hk)) (fun _ _ _ => rfl))
    | agg hl _ ih => exact .agg hl ih
    | tup hl _ ih => exact .tup hl ih
    | fn hl _ hl2 _ ih ih2 => exact .fn hl ih hl2 ih2
    | ifc _ ih => exact .ifc ih
    | ptr hp hn => exact .ptr (hj1 _ _ hp) hn
    | pnil => exact .pnil
    | sl hp hn hc hl => exact .sl (hj1 _ _ hp) hn hc hl
    | slz hp ha => exact .slz (hj1 _ _ hp) ha
    | mp hp hn => exact .mp (hj1 _ _ hp) hn
    | it hp hn => exact .it (hj1 _ _ hp) hn
    | anyp => exact .anyp
    | junk h => exact .junk h
    | gone => exact .gone
  have hupO : ∀ p o, ORel (Fout c.F ns β) β1 w' p o → ORel c.F (join β1 (rst ns β)) w' p o := fun p o h => by
    cases o with
    | row te k fz cs =>
      obtain ⟨h1, h2, h3⟩ := h
      refine ⟨h1, h2, fun hn => ?_⟩
      obtain ⟨cv, fr, ht, h4, h5, h6, h7⟩ := h3 hn
      exact ⟨cv, fr, ht, h4, h5, fun i x hx => let ⟨v, hv, hc, h1c⟩ := h6 i x hx; ⟨v, hv, hc.mono (Nat.le_refl _) (fun k hk => .inl (hO1 k hk)) (fun _ _ _ => rfl), h1c⟩, h7⟩
    | box tb cs =>
      obtain ⟨h1, cv, fr, ht, h5, h6, h7⟩ := h
      exact ⟨h1, cv, fr, ht, h5, fun i x hx => let ⟨v, hv, hc, h1c⟩ := h6 i x hx; ⟨v, hv, hup _ _ hc, h1c⟩, h7⟩
    | map es =>
      obtain ⟨h1, ms, clock, h2, h3, h4, h5⟩ := h
      refine ⟨h1, ms, clock, h2, h3, fun i x e hx he => ?_, h5⟩
      obtain ⟨q1, q2, q3⟩ := h4 i x e hx he
      exact ⟨q1.mono (Nat.le_refl _) (fun k hk => .inl (hO1 k hk)) (fun _ _ _ => rfl), q2.mono (Nat.le_refl _) (fun k hk => .inl (hO1 k hk)) (fun _ _ _ => rfl), q3⟩
    | siter sx pos => exact h
  refine ⟨⟨hs.defers, hs.size, ⟨fun b o hg => ?_, fun b p hp => ?_, fun b b' p p' hp hp' hn hn' hbb => ?_, fun k hk' => Nat.lt_of_lt_of_le (hs.heap.fresh k hk') hk.size, fun b p hp hn hF => ?_, hs.heap.glob.mono hk.size hO hw⟩, fun i x hx => ?_, ?_, fun b p hp hm => ?_⟩, hup⟩
  · rw [hget_append] at hg
    cases h1 : hget H1 b with
    | some o1 =>
      rw [h1] at hg; cases hg
      obtain ⟨p, hp, hr⟩ := hH.obj b o h1
      exact ⟨p, hj1 b p hp, hupO p o hr⟩
    | none =>
      rw [h1] at hg
      simp only at hg
      rw [hget_kiH, hget_hrest] at hg
      split at hg
      · cases hg
      · rename_i hm
        rw [Option.map_eq_some_iff] at hg
        obtain ⟨ob, hob, rfl⟩ := hg
        obtain ⟨p, hp, hr⟩ := hs.heap.obj b ob hob
        refine ⟨p, hj2 b p (rst_some.2 ⟨by simpa using hm, hp⟩), hr.mapN hk.size hO hw hleaf fun hn => hk.block _ (hs.heap.blk_lt hp hn) ?_⟩
        rintro ⟨b', p', hp', hn', hkk⟩
        obtain ⟨hm', hp'⟩ := cut_some.1 hp'
        have := hs.heap.inj b b' p p' hp hp' hn hn' hkk.symm
        subst this
        exact hm hm'
  · rw [hget_append]
    rcases hinv b p hp with h | h
    · obtain ⟨o, ho⟩ := hH.dom b p h
      exact ⟨o, by rw [ho]⟩
    · have hc : hget H1 b = none := by
        cases h1 : hget H1 b with
        | none => rfl
        | some o1 => obtain ⟨p1, hp1, _⟩ := hH.obj b o1 h1; exact (hclash b p1 p hp1 h).elim
      obtain ⟨hm, h⟩ := rst_some.1 h
      obtain ⟨o, ho⟩ := hs.heap.dom b p h
      exact ⟨_, by rw [hc]; simp only; rw [hget_kiH, hget_hrest, hm]; simp only [Bool.false_eq_true, if_false, ho]; rfl⟩
  · rcases hinv b p hp with h | h <;> rcases hinv b' p' hp' with h' | h'
    · exact hH.inj b b' p p' h h' hn hn' hbb
    · exact (hH.apart b p h hn (.inr ⟨b', p', h', hn', hbb.symm⟩)).elim
    · exact (hH.apart b' p' h' hn' (.inr ⟨b, p, h, hn, hbb⟩)).elim
    · exact hs.heap.inj b b' p p' (rst_some.1 h).2 (rst_some.1 h').2 hn hn' hbb
  · rcases hinv b p hp with h | h
    · exact hH.apart b p h hn (.inl hF)
    · exact hs.heap.apart b p (rst_some.1 h).2 hn hF
  · rw [get_kiT, Option.map_eq_some_iff] at hx
    obtain ⟨y, hy, rfl⟩ := hx
    obtain ⟨v, hv, hr⟩ := hs.slot i y hy
    exact ⟨v, hv, hr.mapN hk.size hO hw hleaf⟩
  · exact hs.keeps.trans ⟨hk.os, hk.tape, hk.output, hk.size, fun k hk' hno => hk.block k hk' (fun h => hno (own_mono (fun b p hp => (cut_some.1 hp).2) h)), hown⟩
  · rw [mem_append, Bool.or_eq_false_iff] at hm
    exact hβ b p hm.1 (hs.stay b p hp hm.2)

section
variable {c : Ctx} {Q : Exit → Act → World → Prop} {T : List (Nat × AV)} {H H1 H2 H' : List (Nat × AObj)} {M mv : List Nat} {ops : Array Oper} {rest : List Oper} {d : Option Tmp} {ty : TypeId} {pos : String} {af : Array Edge} {cl : Call} {k : FuncId} {first cap es args : List AV} {r : AV} {hot : List Nat} {l : Plan} {i : Nat}
theorem xcalls (ns : List Nat) (hspec : XSpec c.P k args H1 r H' mv) {β : Emb} {a : Act} {w : World} (hs : SatB c ⟨T, H, M⟩ β a w) {vs : List Value} (hA : Args c.F β w args vs)
    (hH1 : hpick ns H = H1) (hok : honly ns H1 = true) (hon : AV.onlyL ns args = true) (hH2 : hrest ns H = H2) (hap : hapart H' H2 = true) (hdo : dstOk c.N d = true) :
    Calls c.P k vs.toArray w (fun e w' => ∃ v, e = .returned v ∧ Sat c ⟨putT (kiT mv T) d r, H' ++ kiH mv H2, mv ++ M⟩ (a.put d v) w' ∧ (ns = [] → RowKit.Below w.heap.size w w')) := by
  subst hH1 hH2
  have hH : HRel (Fout c.F ns β) (cut ns β) (hpick ns H) w := hs.heap.cut hok
  have hA' : Args (Fout c.F ns β) (cut ns β) w args vs := ⟨hA.1, fun i x v hx hv =>
    (hA.2 i x v hx hv).only (Nat.le_refl _) (fun k hk => .inl (off_cut.1 hk)) (fun _ _ _ => rfl) (fun b p hm hp => cut_some.2 ⟨hm, hp⟩) (AV.onlyL_get hon hx)⟩
  refine (hspec.2 (Fout c.F ns β) (cut ns β) w vs hH hA').mono ?_
  rintro e w' ⟨r', v, H'', M', β', rfl, ⟨rfl, rfl, rfl⟩, hH', hv, hkp, hst⟩
  obtain ⟨hs', hup⟩ := SatB_calledX hs hH' hkp hst hap
  refine ⟨v, rfl, ⟨_, hs'.put hdo (hup _ _ hv)⟩, ?_⟩
  rintro rfl
  refine hkp.below fun k hk => ?_
  obtain ⟨b, p, hp, _⟩ := hk
  have := (cut_some.1 hp).1
  cases this
/-- A call that is given the objects of the names ns. -/
theorem RL_callX (ns : List Nat) (hspec : XSpec c.P k args H1 r H' mv) (hk : calleeOf T cl.callee = some (k, first, cap)) (ha : opvL T cl.args.toList = some es) (hargs : first ++ es ++ cap = args)
    (hH1 : hpick ns H = H1) (hok : honly ns H1 = true) (hon : AV.onlyL ns args = true) (hH2 : hrest ns H = H2) (hap : hapart H' H2 = true) (hdo : dstOk c.N d = true)
    (hnext : RunL c ops Q rest ⟨putT (kiT mv T) d r, H' ++ kiH mv H2, mv ++ M⟩) : RunL c ops Q (⟨d, .call cl, ty, pos, af, none⟩ :: rest) ⟨T, H, M⟩ := by
  rintro a w ⟨β, hs⟩
  obtain ⟨vs, hA, hrun⟩ := run_call_op (o := ⟨d, .call cl, ty, pos, af, none⟩) hs hk ha hspec.1 rfl
  refine wpList_plain rfl fun K hK => ?_
  unfold Oper.wp
  rw [hrun w, Oper.upon_enter]
  refine (xcalls ns hspec hs (by rw [← hargs]; exact hA) hH1 hok hon hH2 hap hdo).mono ?_
  rintro e w' ⟨v, rfl, hs', _⟩
  exact hK _ _ (hnext _ _ hs')
/-- The same, in a region of open order: nothing is given, or all others wait for it. -/
theorem RN_callX (ns : List Nat) (hh : ns = [] ∨ mem i hot = true) (hspec : XSpec c.P k args H1 r H' mv) (hk : calleeOf T cl.callee = some (k, first, cap)) (ha : opvL T cl.args.toList = some es) (hargs : first ++ es ++ cap = args)
    (hH1 : hpick ns H = H1) (hok : honly ns H1 = true) (hon : AV.onlyL ns args = true) (hH2 : hrest ns H = H2) (hap : hapart H' H2 = true) (hdo : dstOk c.N d = true)
    (hnext : RunM c ops hot Q l ⟨putT (kiT mv T) d r, H' ++ kiH mv H2, mv ++ M⟩) : RunN c ops hot Q i true ⟨d, .call cl, ty, pos, af, none⟩ l ⟨T, H, M⟩ := by
  rintro g hi hwt a w ⟨β, hs⟩
  simp only [Plan.step, wpMix, wpOp, hi, (hwt a w β hs).trans (wanted_none rfl _), if_true]
  refine .inl ?_
  obtain ⟨vs, hA, hrun⟩ := run_call_op (o := ⟨d, .call cl, ty, pos, af, g⟩) hs hk ha hspec.1 rfl
  unfold Oper.wp
  rw [hrun w, Oper.upon_enter]
  refine (xcalls ns hspec hs (by rw [← hargs]; exact hA) hH1 hok hon hH2 hap hdo).mono ?_
  rintro e w' ⟨v, rfl, hs', hb⟩
  exact ⟨hh.elim (fun h => .inr (hb h)) .inl, hnext _ _ hs'⟩
end

/-! ### Frozen and borrowed whole -/
def dropW : Nat → List AV → List AV
  | 0, cs => cs
  | o + 1, cs => cs.drop (o + 1)
theorem dropW_eq (o : Nat) (cs : List AV) : dropW o cs = cs.drop o := by cases o <;> rfl
def frzW (b : Nat) (cs : List AV) : AV → AV
  | .nptr z i o => match Nat.beq i b with | true => .optr z (dropW o cs) | false => .nptr z i o
  | .sl i o n => match Nat.beq i b with | true => .vs n (dropW o cs) | false => .sl i o n
  | .mp i => match Nat.beq i b with | true => .gone | false => .mp i
  | .it i => match Nat.beq i b with | true => .gone | false => .it i
  | x => x
theorem Sat.frzW {c : Ctx} {T : List (Nat × AV)} {H : List (Nat × AObj)} {M : List Nat} {a : Act} {w : World} (h : Sat c ⟨T, H, M⟩ a w) {b : Nat} {ob : AObj} {cs : List AV} (hb : hget H b = some ob) (hcs : cellsOf ob = some cs) :
    Sat c ⟨mapT (Abs.frzW b cs) T, mapH (Abs.frzW b cs) (hdel H b), b :: M⟩ a w := by
  obtain ⟨β, hs⟩ := h
  obtain ⟨p0, hp0, hro⟩ := hs.heap.obj b _ hb
  let β' : Emb := fun i => if b = i then none else β i
  have hβ' : ∀ i q, β' i = some q → b ≠ i ∧ β i = some q := fun i q hq => by
    by_cases e : b = i
    · simp [β', e] at hq
    · simp only [β', if_neg e] at hq; exact ⟨e, hq⟩
  have hβ : ∀ i q, i ≠ b → β i = some q → β' i = some q := fun i q hi hq => by show (if b = i then none else β i) = some q; rw [if_neg (Ne.symm hi)]; exact hq
  have hO : ∀ k, off c.F β' k → off c.F β k ∨ w.heap.size ≤ k := fun k hk => .inl (hk.imp id (own_mono fun i p hp => (hβ' i p hp).2))
  have hw : ∀ k, k < w.heap.size → ¬ off c.F β k → w.heap[k]? = w.heap[k]? := fun _ _ _ => rfl
  have hoff : p0.nil = false → ¬ off c.F β' p0.blk := by
    intro hn
    rintro (hF | ⟨j, q, hq, hqn, hqb⟩)
    · exact hs.heap.apart b p0 hp0 hn hF
    · obtain ⟨h1, h2⟩ := hβ' j q hq
      exact h1 (hs.heap.inj b j p0 q hp0 h2 hn hqn hqb.symm)
  have hcell : p0.nil = false → p0.blk < w.heap.size ∧ ∀ (i : Nat) (x : AV), cs[i]? = some x → ∃ u, w.cell? ⟨p0.blk, p0.st + i, none⟩ = some u ∧ CRel (off c.F β') w x u ∧ u.oneCell' = true := fun hn =>
    ⟨hs.heap.blk_lt hp0 hn, fun i x hx => let ⟨u, hu, hc, h1⟩ := hs.cells_of hp0 hb hcs hn i x hx; ⟨u, hu, hc.mono (Nat.le_refl _) hO hw, h1⟩⟩
  have hnilcs : p0.nil = true → cs = [] := by
    intro hn
    cases ob with
    | row te k' fz ds => cases hcs; exact hro.2.1 hn
    | box tb ds => have := hro.1; rw [hn] at this; cases this
    | map es => cases hcs
    | siter sx pos => cases hcs
  have hleaf : ∀ x v, x.leaf = true → VRel c.F β w x v → VRel c.F β' w (Abs.frzW b cs x) v := by
    intro x v hx hv
    cases hv with
    | @ptr i o p hp hn =>
      simp only [Abs.frzW]; split
      · rename_i e; obtain rfl := Nat.eq_of_beq_eq_true e
        rw [hp0] at hp; cases hp
        obtain ⟨hlt, hce⟩ := hcell hn
        rw [dropW_eq]
        refine .c (VRel.vptr_mk (hoff hn) hlt fun i x hx => ?_)
        rw [List.getElem?_drop] at hx
        rw [Nat.add_assoc]
        exact hce _ x hx
      · rename_i e; exact .ptr (hβ _ _ (Nat.ne_of_beq_eq_false e) hp) hn
    | @pnil i o =>
      simp only [Abs.frzW]; split
      · exact .c .vnil
      · exact .pnil
    | @sl i o n cap p hp hn hcap hl =>
      simp only [Abs.frzW]; split
      · rename_i e; obtain rfl := Nat.eq_of_beq_eq_true e
        rw [hp0] at hp; cases hp
        obtain ⟨hlt, hce⟩ := hcell hn
        rw [dropW_eq]
        refine .c (VRel.vs_mk hcap (hoff hn) hlt fun i x hx => ?_)
        rw [List.getElem?_drop] at hx
        rw [Nat.add_assoc]
        exact hce _ x hx
      · rename_i e; exact .sl (hβ _ _ (Nat.ne_of_beq_eq_false e) hp) hn hcap hl
    | @slz i o a p hp ha =>
      simp only [Abs.frzW]; split
      · rename_i e; obtain rfl := Nat.eq_of_beq_eq_true e
        exact .c .vs0
      · rename_i e; exact .slz (hβ _ _ (Nat.ne_of_beq_eq_false e) hp) ha
    | @mp i p hp hn =>
      simp only [Abs.frzW]; split
      · exact .gone
      · rename_i e; exact .mp (hβ _ _ (Nat.ne_of_beq_eq_false e) hp) hn
    | @it i p hp hn =>
      simp only [Abs.frzW]; split
      · exact .gone
      · rename_i e; exact .it (hβ _ _ (Nat.ne_of_beq_eq_false e) hp) hn
    | c h => cases h <;> cases hx
    | agg => cases hx
    | tup => cases hx
    | fn => cases hx
    | ifc => cases hx
    | anyp => cases hx
    | junk => cases hx
    | gone => cases hx
  refine ⟨β', hs.defers, hs.size, ⟨fun i ob hg => ?_, fun i q hq => ?_, fun i j q r hq hr => hs.heap.inj i j q r (hβ' i q hq).2 (hβ' j r hr).2, hs.heap.fresh, fun i q hq => hs.heap.apart i q (hβ' i q hq).2, hs.heap.glob.mono (Nat.le_refl _) hO hw⟩, fun i x hx => ?_, ?_, fun i q hq hm => ?_⟩
  · rw [hget_mapH, hget_hdel] at hg
    by_cases e : b = i
    · rw [if_pos e] at hg; cases hg
    · rw [if_neg e, Option.map_eq_some_iff] at hg
      obtain ⟨ob, ho, rfl⟩ := hg
      obtain ⟨q, hq, hr⟩ := hs.heap.obj i ob ho
      exact ⟨q, hβ i q (Ne.symm e) hq, hr.mapN (Nat.le_refl _) hO hw hleaf (fun _ => rfl)⟩
  · obtain ⟨ob, ho⟩ := hs.heap.dom i q (hβ' i q hq).2
    exact ⟨_, by rw [hget_mapH, hget_hdel, if_neg (hβ' i q hq).1, ho]; rfl⟩
  · rw [get_mapT, Option.map_eq_some_iff] at hx
    obtain ⟨y, hy, rfl⟩ := hx
    obtain ⟨u, hu, hr⟩ := hs.slot i y hy
    exact ⟨u, hu, hr.mapN (Nat.le_refl _) hO hw hleaf⟩
  · exact ⟨hs.keeps.os, hs.keeps.tape, hs.keeps.output, hs.keeps.size, hs.keeps.block, fun k hk => hs.keeps.grows k (own_mono (fun i p hp => (hβ' i p hp).2) hk)⟩
  · rw [mem_cons, Bool.or_eq_false_iff, decide_eq_false_iff_not] at hm
    exact hβ i q (Ne.symm hm.1) (hs.stay i q hq hm.2)

/-- What a name shows, as memory that nobody writes. -/
def brwW (H : List (Nat × AObj)) : AV → AV
  | .nptr z b o => match hget H b with
    | some ob => match cellsOf ob with
      | some cs => .optr z (dropW o cs)
      | none => .gone
    | none => .gone
  | .sl b o n => match hget H b with
    | some (.row _ k _ cs) => .vs n (dropW o cs)
    | _ => .gone
  | _ => .gone
theorem SatB.borrowW {c : Ctx} {s : St} {β : Emb} {a : Act} {w : World} (hs : SatB c s β a w) {x : AV} {v : Value} (h : VRel c.F β w x v) : VRel c.F noEmb w (x.mapN (brwW s.H)) v := by
  have hO : ∀ b, off c.F noEmb b → off c.F β b ∨ w.heap.size ≤ b := fun b hb => .inl (hb.elim .inl (fun h => (own_noEmb _ h).elim))
  have hwk : ∀ b, b < w.heap.size → ¬ off c.F β b → w.heap[b]? = w.heap[b]? := fun _ _ _ => rfl
  have hoff : ∀ {b p}, β b = some p → p.nil = false → ¬ off c.F noEmb p.blk := fun hp hn h => h.elim (hs.heap.apart _ _ hp hn) (own_noEmb _)
  refine h.mapN (Nat.le_refl _) hO hwk fun y u hy hu => ?_
  cases hu with
  | @ptr b o p hp hn =>
    simp only [brwW]
    split
    · rename_i ob hb
      split
      · rename_i cs hcs
        rw [dropW_eq]
        refine .c (VRel.vptr_mk (hoff hp hn) (hs.heap.blk_lt hp hn) fun i x hx => ?_)
        rw [List.getElem?_drop] at hx
        obtain ⟨u, hu, hr, h1⟩ := hs.cells_of hp hb hcs hn _ x hx
        exact ⟨u, by rw [Nat.add_assoc]; exact hu, hr.mono (Nat.le_refl _) hO hwk, h1⟩
      · exact .gone
    · exact .gone
  | @pnil b o =>
    simp only [brwW]
    split
    · split
      · exact .c .vnil
      · exact .gone
    · exact .gone
  | @sl b o n cap p hp hn hcap hl =>
    simp only [brwW]
    split
    · rename_i k fz cs hb
      rw [dropW_eq]
      refine .c (VRel.vs_mk hcap (hoff hp hn) (hs.heap.blk_lt hp hn) fun i x hx => ?_)
      rw [List.getElem?_drop] at hx
      obtain ⟨u, hu, hr, h1⟩ := hs.cells_of hp hb rfl hn _ x hx
      exact ⟨u, by rw [Nat.add_assoc]; exact hu, hr.mono (Nat.le_refl _) hO hwk, h1⟩
    · exact .gone
  | @slz b o a p hp ha =>
    simp only [brwW]
    split
    · exact .c .vs0
    · exact .gone
  | @mp b p hp hn => exact .gone
  | @it b p hp hn => exact .gone
  | c h => cases h <;> cases hy
  | agg => cases hy
  | tup => cases hy
  | fn => cases hy
  | ifc => cases hy
  | anyp => cases hy
  | junk => cases hy
  | gone => cases hy
section
variable {c : Ctx} {Q : Exit → Act → World → Prop} {T : List (Nat × AV)} {H : List (Nat × AObj)} {M : List Nat} {ops : Array Oper} {rest : List Oper} {hot : List Nat} {l : Plan} {i : Nat} {d : Option Tmp} {ty : TypeId} {pos : String} {af : Array Edge} {cl : Call} {k : FuncId} {first cap es args : List AV} {r : AV}
theorem borrow_callsW (hspec : PSpec c.P k args r) {β : Emb} {a : Act} {w : World} (hs : SatB c ⟨T, H, M⟩ β a w) {vs : List Value} (hA : Args c.F β w (first ++ es ++ cap) vs) (hargs : AV.mapNL (brwW H) (first ++ es ++ cap) = args) (hr : r.flat = true) :
    Calls c.P k vs.toArray w (fun e w' => ∃ v, e = .returned v ∧ BelowD w w' ∧ ∀ F' β' w'', VRel F' β' w'' r v) := by
  have hH : HRel c.F noEmb [] w := ⟨(fun b o h => by cases h), (fun b p h => by cases h), (fun b b' p p' h => by cases h), hs.heap.fresh, (fun b p h => by cases h), hs.heap.glob.mono (Nat.le_refl _) (fun _ hk => .inl (hk.elim .inl (fun h => (own_noEmb _ h).elim))) (fun _ _ _ => rfl)⟩
  have hA' : Args c.F noEmb w args vs := by
    rw [← hargs, mapNL_map]
    refine ⟨by simpa using hA.1, fun i x v hx hv => ?_⟩
    rw [List.getElem?_map, Option.map_eq_some_iff] at hx
    obtain ⟨y, hy, rfl⟩ := hx
    exact hs.borrowW (hA.2 i y v hy hv)
  refine (hspec.2 c.F noEmb w vs hH hA').mono ?_
  rintro e w' ⟨r', v, H', M', β', rfl, ⟨rfl, rfl⟩, hH', hv, hkp, _⟩
  exact ⟨v, rfl, hkp.belowD own_noEmb, fun F' β'' w'' => hv.flat hr⟩
theorem RL_callB (hspec : PSpec c.P k args r) (hk : calleeOf T cl.callee = some (k, first, cap)) (ha : opvL T cl.args.toList = some es) (hargs : AV.mapNL (brwW H) (first ++ es ++ cap) = args) (hr : r.flat = true) (hdo : dstOk c.N d = true)
    (hnext : RunL c ops Q rest ⟨putT T d r, H, M⟩) : RunL c ops Q (⟨d, .call cl, ty, pos, af, none⟩ :: rest) ⟨T, H, M⟩ := by
  rintro a w ⟨β, hs⟩
  obtain ⟨vs, hA, hrun⟩ := run_call_op (o := ⟨d, .call cl, ty, pos, af, none⟩) hs hk ha hspec.1 rfl
  refine wpList_plain rfl fun K hK => ?_
  unfold Oper.wp
  rw [hrun w, Oper.upon_enter]
  refine (borrow_callsW hspec hs hA hargs hr).mono ?_
  rintro e w' ⟨v, rfl, hb, hv⟩
  exact hK _ _ (hnext _ _ ⟨β, (hs.later hb).put hdo (hv _ _ _)⟩)
end
end Go.Abs
