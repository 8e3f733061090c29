/-
  A CALL that is given some of what is owned, and a RETURN that leaves some of it. Generic over the program. Conditions: none.
-/
import Derived.Test.YtipbfnjpfmmkfaaGreatDoorAbsName
set_option linter.unusedVariables false
set_option linter.unusedSectionVars false
namespace Go.Abs
open Go
variable [GTab]

mutual
/-- Only these names stand in the value. -/
def AV.only (ns : List Nat) : AV → Bool
  | .agg cs => AV.onlyL ns cs
  | .tup cs => AV.onlyL ns cs
  | .fn _ cs ds => AV.onlyL ns cs && AV.onlyL ns ds
  | .ifc _ x => AV.only ns x
  | .nptr _ b _ => mem b ns
  | .sl b _ _ => mem b ns
  | .mp b => mem b ns
  | .it b => mem b ns
  | _ => true
def AV.onlyL (ns : List Nat) : List AV → Bool
  | [] => true
  | x :: r => AV.only ns x && AV.onlyL ns r
end
theorem AV.onlyL_get {ns : List Nat} : ∀ {l : List AV} (h : AV.onlyL ns l = true) {i : Nat} {x : AV}, l[i]? = some x → x.only ns = true
  | [], _, i, x, hx => by simp at hx
  | y :: r, h, 0, x, hx => by simp [AV.onlyL] at h hx; subst hx; exact h.1
  | y :: r, h, i + 1, x, hx => by simp [AV.onlyL] at h hx; exact AV.onlyL_get h.2 hx
theorem VRel.only {F F' : Nat → Prop} {β β' : Emb} {w w' : World} {ns : List Nat} (hs : w.heap.size ≤ w'.heap.size) (hO : ∀ b, off F' β' b → off F β b ∨ w.heap.size ≤ b)
    (hw : ∀ b, b < w.heap.size → ¬ off F β b → w'.heap[b]? = w.heap[b]?) (hβ : ∀ b p, mem b ns = true → β b = some p → β' b = some p) {x : AV} {v : Value} (h : VRel F β w x v) (hn : x.only ns = true) : VRel F' β' w' x v := by
  induction h with
  | c h => exact .c (h.mono hs hO hw)
  | agg hl _ ih => exact .agg hl fun i x v hx hv => ih i x v hx hv (AV.onlyL_get (by simpa [AV.only] using hn) hx)
  | tup hl _ ih => exact .tup hl fun i x v hx hv => ih i x v hx hv (AV.onlyL_get (by simpa [AV.only] using hn) hx)
  | fn hl _ hl2 _ ih ih2 =>
    simp only [AV.only, Bool.and_eq_true] at hn
    exact .fn hl (fun i x v hx hv => ih i x v hx hv (AV.onlyL_get hn.1 hx)) hl2 (fun i x v hx hv => ih2 i x v hx hv (AV.onlyL_get hn.2 hx))
  | ifc _ ih => exact .ifc (ih (by simpa [AV.only] using hn))
  | ptr hp h => exact .ptr (hβ _ _ hn hp) h
  | pnil => exact .pnil
  | sl hp h hc hl => exact .sl (hβ _ _ hn hp) h hc hl
  | slz hp ha => exact .slz (hβ _ _ hn hp) ha
  | mp hp h => exact .mp (hβ _ _ hn hp) h
  | it hp h => exact .it (hβ _ _ hn hp) h
  | anyp => exact .anyp
  | junk h => exact .junk h
  | gone => exact .gone
def AObj.only (ns : List Nat) : AObj → Bool
  | .box tb cs => AV.onlyL ns cs
  | _ => true
theorem ORel.only {F F' : Nat → Prop} {β β' : Emb} {w w' : World} {ns : List Nat} {p : Place} {o : AObj} (hs : w.heap.size ≤ w'.heap.size) (hO : ∀ b, off F' β' b → off F β b ∨ w.heap.size ≤ b)
    (hw : ∀ b, b < w.heap.size → ¬ off F β b → w'.heap[b]? = w.heap[b]?) (hβ : ∀ b p, mem b ns = true → β b = some p → β' b = some p)
    (hp : p.nil = false → w'.heap[p.blk]? = w.heap[p.blk]?) (h : ORel F β w p o) (hn : o.only ns = true) : ORel F' β' w' p o := by
  cases o with
  | row te k fz cs =>
    obtain ⟨h1, h2, h3⟩ := h
    refine ⟨h1, h2, fun hn => ?_⟩
    obtain ⟨cv, fr, ht, h4, h5, h6, h7⟩ := h3 hn
    exact ⟨cv, fr, (by unfold CellsAt; rw [hp hn]; exact ht), h4, h5, fun i x hx => let ⟨v, hv, hc, h1c⟩ := h6 i x hx; ⟨v, hv, hc.mono hs hO hw, h1c⟩, h7⟩
  | box tb cs =>
    obtain ⟨h1, cv, fr, ht, h5, h6, h7⟩ := h
    refine ⟨h1, cv, fr, (by unfold CellsAt; rw [hp h1]; exact ht), h5, fun i x hx => ?_, h7⟩
    obtain ⟨v, hv, hc, h1c⟩ := h6 i x hx
    exact ⟨v, hv, hc.only hs hO hw hβ (AV.onlyL_get (by simpa [AObj.only] using hn) hx), h1c⟩
  | map es =>
    obtain ⟨h1, ms, clock, h2, h3, h4, h5⟩ := h
    refine ⟨h1, ms, clock, by rw [hp h1]; exact h2, h3, fun i x e hx he => ?_, h5⟩
    obtain ⟨q1, q2, q3⟩ := h4 i x e hx he
    exact ⟨q1.mono hs hO hw, q2.mono hs hO hw, q3⟩
  | siter sx pos => exact ⟨h.1, by rw [hp h.1]; exact h.2⟩

/-- The objects of these names, in the names' order. -/
def hpick : List Nat → List (Nat × AObj) → List (Nat × AObj)
  | [], _ => []
  | b :: r, H => match hget H b with
    | some o => (b, o) :: hpick r H
    | none => hpick r H
theorem hget_hpick : ∀ (ns : List Nat) (H : List (Nat × AObj)) (i : Nat), hget (hpick ns H) i = if mem i ns = true then hget H i else none
  | [], H, i => by simp [hpick, mem, hget]
  | b :: r, H, i => by
    have ih := hget_hpick r H i
    rw [mem_cons, hpick]
    by_cases e : b = i
    · subst e
      cases ho : hget H b with
      | some o => simp [hget_cons]
      | none => simp only [ih, ho]; simp
    · cases ho : hget H b with
      | some o => simp [hget_cons, e, ih]
      | none => simp [e, ih]
def hrest (ns : List Nat) : List (Nat × AObj) → List (Nat × AObj)
  | [] => []
  | (b, o) :: r => match mem b ns with
    | true => hrest ns r
    | false => (b, o) :: hrest ns r
theorem hget_hrest (ns : List Nat) : ∀ (H : List (Nat × AObj)) (i : Nat), hget (hrest ns H) i = if mem i ns = true then none else hget H i
  | [], i => by simp [hrest, hget]
  | (b, o) :: r, i => by
    have ih := hget_hrest ns r i
    rw [hrest, hget_cons]
    by_cases e : b = i
    · subst e
      cases hm : mem b ns with
      | true => simp only [ih, hm]; simp
      | false => simp [hget_cons]
    · cases hm : mem b ns with
      | true => simp [ih, e]
      | false => simp [hget_cons, ih, e]
def honly (ns : List Nat) : List (Nat × AObj) → Bool
  | [] => true
  | (_, o) :: r => o.only ns && honly ns r
theorem honly_get {ns : List Nat} : ∀ {H : List (Nat × AObj)} (h : honly ns H = true) {b : Nat} {o : AObj}, hget H b = some o → o.only ns = true
  | [], _, b, o, ho => by cases ho
  | (j, x) :: r, h, b, o, ho => by
    simp only [honly, Bool.and_eq_true] at h
    rw [hget_cons] at ho
    by_cases e : j = b
    · rw [if_pos e] at ho; cases ho; exact h.1
    · rw [if_neg e] at ho; exact honly_get h.2 ho
/-- No name of the first list is one of the second one. -/
def hapart : List (Nat × AObj) → List (Nat × AObj) → Bool
  | [], _ => true
  | (b, _) :: r, H => (match hget H b with | some _ => false | none => true) && hapart r H
theorem hapart_get : ∀ {H H' : List (Nat × AObj)} (h : hapart H H' = true) {b : Nat} {o : AObj}, hget H b = some o → hget H' b = none
  | [], _, _, b, o, ho => by cases ho
  | (j, x) :: r, H', h, b, o, ho => by
    simp only [hapart, Bool.and_eq_true] at h
    rw [hget_cons] at ho
    by_cases e : j = b
    · subst e
      have := h.1
      split at this
      · cases this
      · assumption
    · rw [if_neg e] at ho; exact hapart_get h.2 ho
theorem hget_append : ∀ (H H' : List (Nat × AObj)) (b : Nat), hget (H ++ H') b = match hget H b with | some o => some o | none => hget H' b
  | [], H', b => rfl
  | (j, x) :: r, H', b => by
    rw [List.cons_append, hget_cons, hget_cons, hget_append r H' b]
    split <;> rfl

def cut (ns : List Nat) (β : Emb) : Emb := fun b => if mem b ns = true then β b else none
def rst (ns : List Nat) (β : Emb) : Emb := fun b => if mem b ns = true then none else β b
theorem cut_some {ns : List Nat} {β : Emb} {b : Nat} {p : Place} : cut ns β b = some p ↔ mem b ns = true ∧ β b = some p := by
  unfold cut; by_cases h : mem b ns = true <;> simp [h]
theorem rst_some {ns : List Nat} {β : Emb} {b : Nat} {p : Place} : rst ns β b = some p ↔ mem b ns = false ∧ β b = some p := by
  unfold rst; by_cases h : mem b ns = true <;> simp [h]
def Fout (F : Nat → Prop) (ns : List Nat) (β : Emb) : Nat → Prop := fun k => F k ∨ own (rst ns β) k
theorem off_cut {F : Nat → Prop} {ns : List Nat} {β : Emb} {k : Nat} : off (Fout F ns β) (cut ns β) k ↔ off F β k := by
  constructor
  · rintro ((h | ⟨b, p, hp, hn, hk⟩) | ⟨b, p, hp, hn, hk⟩)
    · exact .inl h
    · exact .inr ⟨b, p, (rst_some.1 hp).2, hn, hk⟩
    · exact .inr ⟨b, p, (cut_some.1 hp).2, hn, hk⟩
  · rintro (h | ⟨b, p, hp, hn, hk⟩)
    · exact .inl (.inl h)
    · cases hm : mem b ns with
      | true => exact .inr ⟨b, p, cut_some.2 ⟨hm, hp⟩, hn, hk⟩
      | false => exact .inl (.inr ⟨b, p, rst_some.2 ⟨hm, hp⟩, hn, hk⟩)
theorem HRel.cut {F : Nat → Prop} {β : Emb} {H : List (Nat × AObj)} {w : World} (h : HRel F β H w) {ns : List Nat} (hok : honly ns (hpick ns H) = true) : HRel (Fout F ns β) (cut ns β) (hpick ns H) w where
  obj := fun b o ho => by
    have hon := honly_get hok ho
    rw [hget_hpick] at ho
    split at ho
    · rename_i hm
      obtain ⟨p, hp, hr⟩ := h.obj b o ho
      exact ⟨p, cut_some.2 ⟨hm, hp⟩, hr.only (Nat.le_refl _) (fun k hk => .inl (off_cut.1 hk)) (fun _ _ _ => rfl) (fun b p hm hp => cut_some.2 ⟨hm, hp⟩) (fun _ => rfl) hon⟩
    · cases ho
  dom := fun b p hp => by
    obtain ⟨hm, hp⟩ := cut_some.1 hp
    obtain ⟨o, ho⟩ := h.dom b p hp
    exact ⟨o, by rw [hget_hpick, if_pos hm]; exact ho⟩
  inj := fun b b' p p' hp hp' => h.inj b b' p p' (cut_some.1 hp).2 (cut_some.1 hp').2
  fresh := fun k hk => h.lt (hk.imp id (own_mono fun b p hp => (rst_some.1 hp).2))
  glob := h.glob.mono (Nat.le_refl _) (fun k hk => .inl (off_cut.1 hk)) (fun _ _ _ => rfl)
  apart := fun b p hp hn => by
    obtain ⟨hm, hp⟩ := cut_some.1 hp
    rintro (hF | ⟨b', p', hp', hn', hk⟩)
    · exact h.apart b p hp hn hF
    · obtain ⟨hm', hp'⟩ := rst_some.1 hp'
      have := h.inj b b' p p' hp hp' hn hn' hk.symm
      subst this
      rw [hm] at hm'; cases hm'

/-- A call that is given the objects H, and leaves the result r and the objects H', none of the given ones moved. -/
def OSpec (P : Program) (k : FuncId) (args : List AV) (H : List (Nat × AObj)) (r : AV) (H' : List (Nat × AObj)) : Prop := ASpec P k args H (fun r' H'' M => r' = r ∧ H'' = H' ∧ M = [])

def join (β1 β2 : Emb) : Emb := fun b => match β1 b with | some p => some p | none => β2 b

/-- What is known behind a call that was given the objects of the names ns. -/
theorem SatB_called {c : Ctx} {s : St} {β : Emb} {a : Act} {w w' : World} (hs : SatB c s β a w) {ns : List Nat} {β1 : Emb} {H1 : List (Nat × AObj)}
    (hH : HRel (Fout c.F ns β) β1 H1 w') (hk : Keeps (cut ns β) w β1 w') (hstay : ∀ b p, cut ns β b = some p → β1 b = some p) (hap : hapart H1 (hrest ns s.H) = true) :
    SatB c ⟨s.T, H1 ++ hrest ns s.H, s.M⟩ (join β1 (rst ns β)) a w' ∧ ∀ x v, VRel (Fout c.F ns β) β1 w' x v → VRel c.F (join β1 (rst ns β)) w' x v := by
  have hclash : ∀ b p q, β1 b = some p → rst ns β b = some q → False := fun b p q h1 h2 => by
    obtain ⟨o, ho⟩ := hH.dom b p h1
    obtain ⟨hm, h2⟩ := rst_some.1 h2
    obtain ⟨o', ho'⟩ := hs.heap.dom b q h2
    have := hapart_get hap ho
    rw [hget_hrest, hm] at this
    simp at this
    rw [this] at ho'; cases ho'
  have hj1 : ∀ b p, β1 b = some p → join β1 (rst ns β) b = some p := fun b p h => by simp only [join, h]
  have hj2 : ∀ b p, rst ns β b = some p → join β1 (rst ns β) b = some p := fun b p h => by
    cases h1 : β1 b with
    | some q => exact (hclash b q p h1 h).elim
    | none => simp only [join, h1]; exact h
  have hinv : ∀ b p, join β1 (rst ns β) b = some p → β1 b = some p ∨ rst ns β b = some p := fun b p h => by
    simp only [join] at h
    cases h1 : β1 b with
    | some q => rw [h1] at h; cases h; exact .inl rfl
    | none => rw [h1] at h; exact .inr h
  have hβ : ∀ b p, β b = some p → join β1 (rst ns β) b = some p := fun b p h => by
    cases hm : mem b ns with
    | true => exact hj1 b p (hstay b p (cut_some.2 ⟨hm, h⟩))
    | false => exact hj2 b p (rst_some.2 ⟨hm, h⟩)
  have hown : ∀ k, own (join β1 (rst ns β)) k → own β k ∨ w.heap.size ≤ k := by
    rintro k ⟨b, p, hp, hn, hkk⟩
    rcases hinv b p hp with h | h
    · exact (hk.grows k ⟨b, p, h, hn, hkk⟩).imp (own_mono fun b p hp => (cut_some.1 hp).2) id
    · exact .inl ⟨b, p, (rst_some.1 h).2, hn, hkk⟩
  have hO : ∀ k, off c.F (join β1 (rst ns β)) k → off c.F β k ∨ w.heap.size ≤ k := fun k h => h.elim (fun h => .inl (.inl h)) (fun h => (hown k h).imp .inr id)
  have hO1 : ∀ k, off c.F (join β1 (rst ns β)) k → off (Fout c.F ns β) β1 k := by
    rintro k (h | ⟨b, p, hp, hn, hkk⟩)
    · exact .inl (.inl h)
    · rcases hinv b p hp with h | h
      · exact .inr ⟨b, p, h, hn, hkk⟩
      · exact .inl (.inr ⟨b, p, h, hn, hkk⟩)
  have hw : ∀ k, k < w.heap.size → ¬ off c.F β k → w'.heap[k]? = w.heap[k]? := fun k hk' hno => hk.block k hk' (fun h => hno (.inr (own_mono (fun b p hp => (cut_some.1 hp).2) h)))
  have hup : ∀ x v, VRel (Fout c.F ns β) β1 w' x v → VRel c.F (join β1 (rst ns β)) w' x v := fun x v h => by
    have : x.mapN id = x → VRel c.F (join β1 (rst ns β)) w' (x.mapN id) v → VRel c.F (join β1 (rst ns β)) w' x v := fun e h => e ▸ h
    induction h with
    | c h => exact .c (h.mono (Nat.le_refl _) (fun k hk => .inl (hO1 k hk)) (fun _ _ _ => rfl))
    | agg hl _ ih => exact .agg hl (fun i x v hx hv => ih i x v hx hv (fun e h => e ▸ h))
    | tup hl _ ih => exact .tup hl (fun i x v hx hv => ih i x v hx hv (fun e h => e ▸ h))
    | fn hl _ hl2 _ ih ih2 => exact .fn hl (fun i x v hx hv => ih i x v hx hv (fun e h => e ▸ h)) hl2 (fun i x v hx hv => ih2 i x v hx hv (fun e h => e ▸ h))
    | ifc _ ih => exact .ifc (ih (fun e h => e ▸ h))
    | ptr hp hn => exact .ptr (hj1 _ _ hp) hn
    | pnil => exact .pnil
    | sl hp hn hc hl => exact .sl (hj1 _ _ hp) hn hc hl
    | slz hp ha => exact .slz (hj1 _ _ hp) ha
    | mp hp hn => exact .mp (hj1 _ _ hp) hn
    | it hp hn => exact .it (hj1 _ _ hp) hn
    | anyp => exact .anyp
    | junk h => exact .junk h
    | gone => exact .gone
  have hupO : ∀ p o, ORel (Fout c.F ns β) β1 w' p o → ORel c.F (join β1 (rst ns β)) w' p o := fun p o h => by
    cases o with
    | row te k fz cs =>
      obtain ⟨h1, h2, h3⟩ := h
      refine ⟨h1, h2, fun hn => ?_⟩
      obtain ⟨cv, fr, ht, h4, h5, h6, h7⟩ := h3 hn
      exact ⟨cv, fr, ht, h4, h5, fun i x hx => let ⟨v, hv, hc, h1c⟩ := h6 i x hx; ⟨v, hv, hc.mono (Nat.le_refl _) (fun k hk => .inl (hO1 k hk)) (fun _ _ _ => rfl), h1c⟩, h7⟩
    | box tb cs =>
      obtain ⟨h1, cv, fr, ht, h5, h6, h7⟩ := h
      exact ⟨h1, cv, fr, ht, h5, fun i x hx => let ⟨v, hv, hc, h1c⟩ := h6 i x hx; ⟨v, hv, hup _ _ hc, h1c⟩, h7⟩
    | map es =>
      obtain ⟨h1, ms, clock, h2, h3, h4, h5⟩ := h
      refine ⟨h1, ms, clock, h2, h3, fun i x e hx he => ?_, h5⟩
      obtain ⟨q1, q2, q3⟩ := h4 i x e hx he
      exact ⟨q1.mono (Nat.le_refl _) (fun k hk => .inl (hO1 k hk)) (fun _ _ _ => rfl), q2.mono (Nat.le_refl _) (fun k hk => .inl (hO1 k hk)) (fun _ _ _ => rfl), q3⟩
    | siter sx pos => exact h
  refine ⟨⟨hs.defers, hs.size, ⟨fun b o hg => ?_, fun b p hp => ?_, fun b b' p p' hp hp' hn hn' hbb => ?_, fun k hk' => Nat.lt_of_lt_of_le (hs.heap.fresh k hk') hk.size, fun b p hp hn hF => ?_, hs.heap.glob.mono hk.size hO hw⟩, fun i x hx => ?_, ?_, fun b p hp hm => hβ b p (hs.stay b p hp hm)⟩, hup⟩
  · rw [hget_append] at hg
    cases h1 : hget H1 b with
    | some o1 =>
      rw [h1] at hg; cases hg
      obtain ⟨p, hp, hr⟩ := hH.obj b o h1
      exact ⟨p, hj1 b p hp, hupO p o hr⟩
    | none =>
      rw [h1] at hg
      simp only at hg
      rw [hget_hrest] at hg
      split at hg
      · cases hg
      · rename_i hm
        obtain ⟨p, hp, hr⟩ := hs.heap.obj b o hg
        refine ⟨p, hβ b p hp, hr.carry hβ hk.size hO hw fun hn => hk.block _ (hs.heap.blk_lt hp hn) ?_⟩
        rintro ⟨b', p', hp', hn', hkk⟩
        obtain ⟨hm', hp'⟩ := cut_some.1 hp'
        have := hs.heap.inj b b' p p' hp hp' hn hn' hkk.symm
        subst this
        exact hm hm'
  · rw [hget_append]
    rcases hinv b p hp with h | h
    · obtain ⟨o, ho⟩ := hH.dom b p h
      exact ⟨o, by rw [ho]⟩
    · have hc : hget H1 b = none := by
        cases h1 : hget H1 b with
        | none => rfl
        | some o1 => obtain ⟨p1, hp1, _⟩ := hH.obj b o1 h1; exact (hclash b p1 p hp1 h).elim
      obtain ⟨hm, h⟩ := rst_some.1 h
      obtain ⟨o, ho⟩ := hs.heap.dom b p h
      exact ⟨o, by rw [hc]; simp only; rw [hget_hrest, hm]; simpa using ho⟩
  · rcases hinv b p hp with h | h <;> rcases hinv b' p' hp' with h' | h'
    · exact hH.inj b b' p p' h h' hn hn' hbb
    · exact (hH.apart b p h hn (.inr ⟨b', p', h', hn', hbb.symm⟩)).elim
    · exact (hH.apart b' p' h' hn' (.inr ⟨b, p, h, hn, hbb⟩)).elim
    · exact hs.heap.inj b b' p p' (rst_some.1 h).2 (rst_some.1 h').2 hn hn' hbb
  · rcases hinv b p hp with h | h
    · exact hH.apart b p h hn (.inl hF)
    · exact hs.heap.apart b p (rst_some.1 h).2 hn hF
  · obtain ⟨v, hv, hr⟩ := hs.slot i x hx
    exact ⟨v, hv, hr.mono hβ hk.size hO hw⟩
  · exact hs.keeps.trans ⟨hk.os, hk.tape, hk.output, hk.size, fun k hk' hno => hk.block k hk' (fun h => hno (own_mono (fun b p hp => (cut_some.1 hp).2) h)), hown⟩

section
variable {c : Ctx} {Q : Exit → Act → World → Prop} {T : List (Nat × AV)} {H H1 H2 H' : List (Nat × AObj)} {M : List Nat} {ops : Array Oper} {rest : List Oper} {d : Tmp} {ty : TypeId} {pos : String} {af : Array Edge} {cl : Call} {k : FuncId} {first cap es args : List AV} {r : AV}

/-- A call that owns nothing, in a region of open order. -/
theorem RL_callP (hspec : PSpec c.P k args r) (hk : calleeOf T cl.callee = some (k, first, cap)) (ha : opvL T cl.args.toList = some es) (hargs : first ++ es ++ cap = args) (hcl : AV.closedL args = true) (hdo : dstOk c.N (some d) = true)
    (hnext : RunL c ops Q rest ⟨(d, r) :: T, H, M⟩) : RunL c ops Q (⟨some d, .call cl, ty, pos, af, none⟩ :: rest) ⟨T, H, M⟩ := by
  subst hargs
  exact RunL_call (s := ⟨T, H, M⟩) rfl hk ha hspec hcl rfl hdo hnext
end

/-- The walk into a function, with what is known of the given objects' names. -/
theorem ASpec_of_run' {P : Program} {U : List (Nat × TI)} (hU : ∀ t i, tget U t = some i → P.underlying t = some i.desc ∧ ∃ info, P.info? t = some info ∧ info.size = i.size ∧ info.bytes = i.bytes ∧ info.zero = some i.zero)
    {k : FuncId} {fn : Func} {code : Code} {args : List AV} {H : List (Nat × AObj)} {Q : Post} (hf : P.funcs[k]? = some fn) (hb : fn.body = some code) (hname : (fn.name == "runtime.NumGoroutine") = false) (hn : Nat.ble args.length fn.ntmps = true)
    (h : ∀ F β w, (∀ b p, β b = some p → ∃ o, hget H b = some o) → Run ⟨P, U, hU, F, β, w, fn.ntmps⟩ (bodyPost P fn (Rpost Q F β w)) code ⟨enumT 0 args, H, []⟩) : ASpec P k args H Q := by
  refine ⟨Proofs.enters_of hf hname hb, fun F β w vs hH ⟨hl, ha⟩ => calls_of_wp hf hb (h F β w hH.dom _ w ⟨β, rfl, ?_, hH, fun i x hx => ?_, Keeps.refl _ _, fun b p hp _ => hp⟩)⟩
  · have h1 := Nat.le_of_ble_eq_true hn
    show (vs.toArray ++ Array.replicate (fn.ntmps - vs.toArray.size) undef).size = fn.ntmps
    rw [Array.size_append, Array.size_replicate, List.size_toArray]
    omega
  · rw [get_enumT] at hx
    simp only [Nat.zero_le, if_true, Nat.sub_zero] at hx
    have hi : i < args.length := (List.getElem?_eq_some_iff.1 hx).1
    have hv : vs[i]? = some (vs[i]'(by omega)) := by simp
    refine ⟨vs[i]'(by omega), ?_, ha i x _ hx hv⟩
    rw [Array.getElem?_append_left (by simp; omega)]
    simp

section
variable {P : Program} {U : List (Nat × TI)} {hU : ∀ t i, tget U t = some i → P.underlying t = some i.desc ∧ ∃ info, P.info? t = some info ∧ info.size = i.size ∧ info.bytes = i.bytes ∧ info.zero = some i.zero}
    {F : Nat → Prop} {β : Emb} {w0 : World} {N : Nat} {fn : Func} {T : List (Nat × AV)} {H H0 H' : List (Nat × AObj)} {M : List Nat} {r r' : AV}
end
end Go.Abs
