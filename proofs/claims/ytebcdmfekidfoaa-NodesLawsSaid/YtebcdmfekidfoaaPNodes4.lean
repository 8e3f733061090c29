/-
  PLAIN LAWS OF SETS OF POINTS: the law NodesSets. No program, no memory. Conditions: none.
-/
import Derived.Test.YtebcdmfekidfoaaPNodes3
set_option linter.unusedVariables false
set_option linter.unusedSimpArgs false
namespace G
open W
theorem awake_true : apostillelaw11_awake = some true := by
  obtain ⟨r, h1, h2⟩ := of_eq [TPoint.mk 2 0 0, TPoint.mk 1 0 0, TPoint.mk 1 0 0] (by decide)
  have hr : r = [TPoint.mk 1 0 0, TPoint.mk 2 0 0] := h2.unique ⟨by decide, fun p => by
    simp only [List.mem_cons, List.not_mem_nil, or_false]
    constructor
    · rintro (h | h)
      · exact .inr (.inl h)
      · exact .inl h
    · rintro (h | h | h)
      · exact .inr h
      · exact .inl h
      · exact .inl h⟩
  subst hr
  unfold apostillelaw11_awake
  rw [h1]
  simp only [Option.bind_some]
  rw [is_eq _ (by decide), has_eq _ _ (by decide)]
  rfl
theorem sets_true (l : List TPoint) (p : TPoint) : apostillelaw11_NodesSets l p = some true := by
  unfold apostillelaw11_NodesSets
  rw [awake_true]
  simp only [Option.bind_some, Bool.not_true, cond_false]
  by_cases h : l.length > 60
  · rw [show decide ((l.length : Int) > 60) = true by simp; omega]; rfl
  · rw [show decide ((l.length : Int) > 60) = false by simp; omega]
    simp only [cond_false]
    rw [app_of (by simp; omega)]
    obtain ⟨s, h1, h2⟩ := of_eq l (by omega)
    obtain ⟨w, h3, h4⟩ := ref_of l (by omega)
    have hsw := h2.unique h4
    subst hsw
    have hsl := h2.length_le
    simp only [Option.bind_some, List.nil_append]
    rw [h1, h3]
    simp only [Option.bind_some]
    rw [same_eq _ _ (by omega), same_eq _ _ (by omega), is_eq _ (by omega), is_eq _ (by omega), same_eq _ _ (by omega), has_eq _ _ (by omega), in_eq _ _ (by omega)]
    simp only [Option.bind_some, decide_true, cond_true, h2.asc]
    have : decide (Asc l) = decide (l = s) := by
      by_cases hl : Asc l
      · have : l = s := (IsSet.unique ⟨hl, fun p => Iff.rfl⟩ h2)
        simp [hl, ← this]
      · have : l ≠ s := fun e => hl (e ▸ h2.asc)
        simp [hl, this]
    rw [this]
    simp
end G
