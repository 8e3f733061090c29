/-
  MEMORY: new objects, stores, appends. Generic over the program. Conditions: none.
-/
import Derived.Test.YtipbfnjpfmmkfaaGreatDoorAbsCall
import Derived.Laws.IdiomCopy
import Derived.Laws.AppendOwn
import Derived.Laws.OwnMore
set_option linter.unusedVariables false
set_option linter.unusedSimpArgs false
set_option linter.unusedSectionVars false
namespace Go.Abs
open Go
variable [GTab]

def upd (β : Emb) (b : Nat) (p : Place) : Emb := fun i => if b = i then some p else β i
theorem upd_same (β : Emb) (b : Nat) (p : Place) : upd β b p b = some p := by simp [upd]
theorem upd_ne (β : Emb) {b i : Nat} (p : Place) (h : b ≠ i) : upd β b p i = β i := by simp [upd, h]
theorem upd_some {β : Emb} {b i : Nat} {p q : Place} (h : upd β b p i = some q) : (b = i ∧ q = p) ∨ (b ≠ i ∧ β i = some q) := by
  unfold upd at h
  split at h
  · rename_i e; cases h; exact .inl ⟨e, rfl⟩
  · rename_i e; exact .inr ⟨e, h⟩

/-- A world that is as it was but for the objects that lie in some blocks. -/
structure But (w w' : World) (may : Nat → Prop) : Prop where
  os : w'.os = w.os
  tape : w'.tape = w.tape ∧ w.drawn ≤ w'.drawn
  output : w'.output = w.output
  size : w.heap.size ≤ w'.heap.size
  block : ∀ k, k < w.heap.size → ¬ may k → w'.heap[k]? = w.heap[k]?

/-- What an object says, in a later world that has not turned it. -/
theorem ORel.carry {F : Nat → Prop} {β β' : Emb} {w w' : World} {p : Place} {o : AObj} (hβ : ∀ b p, β b = some p → β' b = some p) (hs : w.heap.size ≤ w'.heap.size)
    (hO : ∀ b, off F β' b → off F β b ∨ w.heap.size ≤ b) (hw : ∀ b, b < w.heap.size → ¬ off F β b → w'.heap[b]? = w.heap[b]?)
    (hp : p.nil = false → w'.heap[p.blk]? = w.heap[p.blk]?) (h : ORel F β w p o) : ORel F β' w' p o := by
  cases o with
  | row te k fz cs =>
    obtain ⟨h1, h2, h3⟩ := h
    refine ⟨h1, h2, fun hn => ?_⟩
    obtain ⟨cv, fr, ht, h4, h5, h6, h7⟩ := h3 hn
    exact ⟨cv, fr, (by unfold CellsAt; rw [hp hn]; exact ht), h4, h5, fun i x hx => let ⟨v, hv, hc, h1c⟩ := h6 i x hx; ⟨v, hv, hc.mono hs hO hw, h1c⟩, h7⟩
  | box tb cs =>
    obtain ⟨h1, cv, fr, ht, h5, h6, h7⟩ := h
    exact ⟨h1, cv, fr, (by unfold CellsAt; rw [hp h1]; exact ht), h5, fun i x hx => let ⟨v, hv, hc, h1c⟩ := h6 i x hx; ⟨v, hv, hc.mono hβ hs hO hw, h1c⟩, h7⟩
  | map es =>
    obtain ⟨h1, ms, clock, h2, h3, h4, h5⟩ := h
    refine ⟨h1, ms, clock, by rw [hp h1]; exact h2, h3, fun i x e hx he => ?_, h5⟩
    obtain ⟨q1, q2, q3⟩ := h4 i x e hx he
    exact ⟨q1.mono hs hO hw, q2.mono hs hO hw, q3⟩
  | siter sx pos => exact ⟨h.1, by rw [hp h.1]; exact h.2⟩
/-- The same, another object being let go. -/
theorem ORel.carryKill {F : Nat → Prop} {β β' : Emb} {w w' : World} {p : Place} {o : AObj} {b0 : Nat} (hβ : ∀ b p, b ≠ b0 → β b = some p → β' b = some p) (hs : w.heap.size ≤ w'.heap.size)
    (hO : ∀ b, off F β' b → off F β b ∨ w.heap.size ≤ b) (hw : ∀ b, b < w.heap.size → ¬ off F β b → w'.heap[b]? = w.heap[b]?)
    (hp : p.nil = false → w'.heap[p.blk]? = w.heap[p.blk]?) (h : ORel F β w p o) : ORel F β' w' p (o.kill b0) := by
  cases o with
  | row te k fz cs =>
    obtain ⟨h1, h2, h3⟩ := h
    refine ⟨h1, h2, fun hn => ?_⟩
    obtain ⟨cv, fr, ht, h4, h5, h6, h7⟩ := h3 hn
    exact ⟨cv, fr, (by unfold CellsAt; rw [hp hn]; exact ht), h4, h5, fun i x hx => let ⟨v, hv, hc, h1c⟩ := h6 i x hx; ⟨v, hv, hc.mono hs hO hw, h1c⟩, h7⟩
  | box tb cs =>
    obtain ⟨h1, cv, fr, ht, h5, h6, h7⟩ := h
    refine ⟨h1, cv, fr, (by unfold CellsAt; rw [hp h1]; exact ht), by rw [AV.killL_length]; exact h5, fun i x hx => ?_, h7⟩
    obtain ⟨y, hy, rfl⟩ := AV.killL_get _ _ _ _ hx
    obtain ⟨v, hv, hc, h1c⟩ := h6 i y hy
    exact ⟨v, hv, hc.kill hβ hs hO hw, h1c⟩
  | map es =>
    obtain ⟨h1, ms, clock, h2, h3, h4, h5⟩ := h
    refine ⟨h1, ms, clock, by rw [hp h1]; exact h2, h3, fun i x e hx he => ?_, h5⟩
    obtain ⟨q1, q2, q3⟩ := h4 i x e hx he
    exact ⟨q1.mono hs hO hw, q2.mono hs hO hw, q3⟩
  | siter sx pos => exact ⟨h.1, by rw [hp h.1]; exact h.2⟩

theorem HRel.blk_lt {F : Nat → Prop} {β : Emb} {H : List (Nat × AObj)} {w : World} (h : HRel F β H w) {b : Nat} {p : Place} (hp : β b = some p) (hn : p.nil = false) : p.blk < w.heap.size :=
  h.lt (.inr ⟨b, p, hp, hn, rfl⟩)

/-- **A new object.** -/
theorem SatB.newobj {c : Ctx} {s : St} {β : Emb} {a : Act} {w w' : World} (hs : SatB c s β a w) {b : Nat} (hb : hget s.H b = none) (p : Place) (hn : p.nil = false ∨ True) (hblk : p.nil = false → w.heap.size ≤ p.blk ∧ p.blk < w'.heap.size)
    (hbut : But w w' (fun _ => False)) {o : AObj} (ho : ORel c.F (upd β b p) w' p o) : SatB c ⟨s.T, (b, o) :: s.H, s.M⟩ (upd β b p) a w' := by
  have hfr : β b = none := by
    cases h : β b with
    | none => rfl
    | some q => obtain ⟨ob, hob⟩ := hs.heap.dom b q h; rw [hb] at hob; cases hob
  have hβ : ∀ i q, β i = some q → upd β b p i = some q := fun i q hq => by
    have : b ≠ i := fun e => by subst e; rw [hfr] at hq; cases hq
    rw [upd_ne _ _ this]; exact hq
  have hown : ∀ k, own (upd β b p) k → own β k ∨ w.heap.size ≤ k := by
    rintro k ⟨i, q, hq, hqn, rfl⟩
    rcases upd_some hq with ⟨rfl, rfl⟩ | ⟨_, hq⟩
    · exact .inr (hblk hqn).1
    · exact .inl ⟨i, q, hq, hqn, rfl⟩
  have hO : ∀ k, off c.F (upd β b p) k → off c.F β k ∨ w.heap.size ≤ k := fun k hk => hk.elim (fun h => .inl (.inl h)) (fun h => (hown k h).imp (fun h => .inr h) id)
  have hw : ∀ k, k < w.heap.size → ¬ off c.F β k → w'.heap[k]? = w.heap[k]? := fun k hk _ => hbut.block k hk (fun h => h)
  refine ⟨hs.defers, hs.size, ⟨fun i ob hg => ?_, fun i q hq => ?_, fun i j q r hq hr hqn hrn hqr => ?_, fun k hk => Nat.lt_of_lt_of_le (hs.heap.fresh k hk) hbut.size, fun i q hq hqn => ?_, hs.heap.glob.mono hbut.size hO hw⟩, fun i x hx => ?_, ?_, fun i q hq hm => hβ i q (hs.stay i q hq hm)⟩
  · rw [hget_cons] at hg
    by_cases e : b = i
    · rw [if_pos e] at hg; cases hg; subst e; exact ⟨p, upd_same _ _ _, ho⟩
    · rw [if_neg e] at hg
      obtain ⟨q, hq, hr⟩ := hs.heap.obj i ob hg
      exact ⟨q, hβ i q hq, hr.carry hβ hbut.size hO hw (fun hqn => hbut.block _ (hs.heap.blk_lt hq hqn) (fun h => h))⟩
  · rw [hget_cons]
    rcases upd_some hq with ⟨rfl, rfl⟩ | ⟨e, hq⟩
    · exact ⟨o, if_pos rfl⟩
    · rw [if_neg e]; exact hs.heap.dom i q hq
  · rcases upd_some hq with ⟨e, rfl⟩ | ⟨e, hq'⟩ <;> rcases upd_some hr with ⟨e', rfl⟩ | ⟨e', hr'⟩
    · exact e.symm.trans e'
    · have := hs.heap.blk_lt hr' hrn; have := (hblk hqn).1; omega
    · have := hs.heap.blk_lt hq' hqn; have := (hblk hrn).1; omega
    · exact hs.heap.inj i j q r hq' hr' hqn hrn hqr
  · rcases upd_some hq with ⟨rfl, rfl⟩ | ⟨e, hq⟩
    · intro hF; have := hs.heap.fresh _ hF; have := (hblk hqn).1; omega
    · exact hs.heap.apart i q hq hqn
  · obtain ⟨v, hv, hr⟩ := hs.slot i x hx
    exact ⟨v, hv, hr.mono hβ hbut.size hO hw⟩
  · exact hs.keeps.trans ⟨hbut.os, hbut.tape, hbut.output, hbut.size, fun k hk _ => hbut.block k hk (fun h => h), hown⟩

/-- **An object is written.** -/
theorem SatB.setobj {c : Ctx} {s : St} {β : Emb} {a : Act} {w w' : World} (hs : SatB c s β a w) {b : Nat} {p : Place} (hp : β b = some p) (hn : p.nil = false) (hbut : But w w' (· = p.blk)) {o : AObj} (ho : ORel c.F β w' p o) :
    SatB c ⟨s.T, hset s.H b o, s.M⟩ β a w' := by
  have hO : ∀ k, off c.F β k → off c.F β k ∨ w.heap.size ≤ k := fun _ h => .inl h
  have hw : ∀ k, k < w.heap.size → ¬ off c.F β k → w'.heap[k]? = w.heap[k]? := fun k hk hno => hbut.block k hk (fun e => hno (.inr ⟨b, p, hp, hn, e.symm⟩))
  refine ⟨hs.defers, hs.size, ⟨fun i ob hg => ?_, fun i q hq => ?_, hs.heap.inj, fun k hk => Nat.lt_of_lt_of_le (hs.heap.fresh k hk) hbut.size, hs.heap.apart, hs.heap.glob.mono hbut.size hO hw⟩, fun i x hx => ?_, ?_, hs.stay⟩
  · rw [hget_hset] at hg
    by_cases e : b = i
    · rw [if_pos e] at hg; cases hg; subst e; exact ⟨p, hp, ho⟩
    · rw [if_neg e] at hg
      obtain ⟨q, hq, hr⟩ := hs.heap.obj i ob hg
      refine ⟨q, hq, hr.carry (fun _ _ h => h) hbut.size hO hw (fun hqn => hbut.block _ (hs.heap.blk_lt hq hqn) (fun h => e ?_))⟩
      exact hs.heap.inj b i p q hp hq hn hqn h.symm
  · rw [hget_hset]
    by_cases e : b = i
    · exact ⟨o, if_pos e⟩
    · rw [if_neg e]; exact hs.heap.dom i q hq
  · obtain ⟨v, hv, hr⟩ := hs.slot i x hx
    exact ⟨v, hv, hr.mono (fun _ _ h => h) hbut.size hO hw⟩
  · exact hs.keeps.trans ⟨hbut.os, hbut.tape, hbut.output, hbut.size, fun k hk hno => hbut.block k hk (fun e => hno ⟨b, p, hp, hn, e.symm⟩), fun k hk => .inl hk⟩

/-- **An object is put in another one's place**, its name killed wherever it stood. -/
theorem SatB.replace {c : Ctx} {s : St} {β : Emb} {a : Act} {w w' : World} (hs : SatB c s β a w) {b : Nat} {p p' : Place} (hp : β b = some p) (hblk : p'.nil = false → (p.nil = false ∧ p'.blk = p.blk) ∨ w.heap.size ≤ p'.blk)
    (hbut : But w w' (fun k => p.nil = false ∧ k = p.blk)) {o : AObj} (ho : ORel c.F (upd β b p') w' p' o) : SatB c ⟨killT b s.T, (b, o) :: killH b s.H, b :: s.M⟩ (upd β b p') a w' := by
  have hβ : ∀ i q, i ≠ b → β i = some q → upd β b p' i = some q := fun i q hi hq => by rw [upd_ne _ _ (Ne.symm hi)]; exact hq
  have hown : ∀ k, own (upd β b p') k → own β k ∨ w.heap.size ≤ k := by
    rintro k ⟨i, q, hq, hqn, rfl⟩
    rcases upd_some hq with ⟨rfl, rfl⟩ | ⟨_, hq⟩
    · rcases hblk hqn with ⟨h1, h2⟩ | h
      · exact .inl ⟨b, p, hp, h1, h2.symm⟩
      · exact .inr h
    · exact .inl ⟨i, q, hq, hqn, rfl⟩
  have hO : ∀ k, off c.F (upd β b p') k → off c.F β k ∨ w.heap.size ≤ k := fun k hk => hk.elim (fun h => .inl (.inl h)) (fun h => (hown k h).imp (fun h => .inr h) id)
  have hw : ∀ k, k < w.heap.size → ¬ off c.F β k → w'.heap[k]? = w.heap[k]? := fun k hk hno => hbut.block k hk (fun ⟨h1, h2⟩ => hno (.inr ⟨b, p, hp, h1, h2.symm⟩))
  refine ⟨hs.defers, hs.size, ⟨fun i ob hg => ?_, fun i q hq => ?_, fun i j q r hq hr hqn hrn hqr => ?_, fun k hk => Nat.lt_of_lt_of_le (hs.heap.fresh k hk) hbut.size, fun i q hq hqn => ?_, hs.heap.glob.mono hbut.size hO hw⟩, fun i x hx => ?_, ?_, fun i q hq hm => ?_⟩
  · rw [hget_cons] at hg
    by_cases e : b = i
    · rw [if_pos e] at hg; cases hg; subst e; exact ⟨p', upd_same _ _ _, ho⟩
    · rw [if_neg e, hget_killH, if_neg e, Option.map_eq_some_iff] at hg
      obtain ⟨ob, hg, rfl⟩ := hg
      obtain ⟨q, hq, hr⟩ := hs.heap.obj i ob hg
      refine ⟨q, hβ i q (Ne.symm e) hq, hr.carryKill hβ hbut.size hO hw (fun hqn => hbut.block _ (hs.heap.blk_lt hq hqn) (fun ⟨h1, h2⟩ => e ?_))⟩
      exact hs.heap.inj b i p q hp hq h1 hqn h2.symm
  · rw [hget_cons]
    rcases upd_some hq with ⟨rfl, rfl⟩ | ⟨e, hq⟩
    · exact ⟨o, if_pos rfl⟩
    · rw [if_neg e, hget_killH, if_neg e]
      obtain ⟨ob, hob⟩ := hs.heap.dom i q hq
      exact ⟨ob.kill b, by rw [hob]; rfl⟩
  · have hcase : ∀ {i : Nat} {q : Place}, b ≠ i → β i = some q → q.nil = false → p'.nil = false → p'.blk ≠ q.blk := fun {i q} e hq hqn hpn h => by
      rcases hblk hpn with ⟨h1, h2⟩ | h3
      · exact e (hs.heap.inj b i p q hp hq h1 hqn (h2.symm.trans h))
      · have := hs.heap.blk_lt hq hqn; omega
    rcases upd_some hq with ⟨e, rfl⟩ | ⟨e, hq'⟩ <;> rcases upd_some hr with ⟨e', rfl⟩ | ⟨e', hr'⟩
    · exact e.symm.trans e'
    · exact (hcase e' hr' hrn hqn hqr).elim
    · exact (hcase e hq' hqn hrn hqr.symm).elim
    · exact hs.heap.inj i j q r hq' hr' hqn hrn hqr
  · rcases upd_some hq with ⟨rfl, rfl⟩ | ⟨e, hq⟩
    · intro hF
      rcases hblk hqn with ⟨h1, h2⟩ | h
      · exact hs.heap.apart b p hp h1 (h2 ▸ hF)
      · have := hs.heap.fresh _ hF; omega
    · exact hs.heap.apart i q hq hqn
  · rw [get_killT, Option.map_eq_some_iff] at hx
    obtain ⟨y, hy, rfl⟩ := hx
    obtain ⟨v, hv, hr⟩ := hs.slot i y hy
    exact ⟨v, hv, hr.kill hβ hbut.size hO hw⟩
  · exact hs.keeps.trans ⟨hbut.os, hbut.tape, hbut.output, hbut.size, fun k hk hno => hbut.block k hk (fun ⟨h1, h2⟩ => hno ⟨b, p, hp, h1, h2.symm⟩), hown⟩
  · rw [mem_cons, Bool.or_eq_false_iff, decide_eq_false_iff_not] at hm
    exact hβ i q (Ne.symm hm.1) (hs.stay i q hq hm.2)

end Go.Abs
