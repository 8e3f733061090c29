/-
  PointOrders, plain: points have one order. No program, no memory. Conditions: none.
-/
import Derived.Test.YtipbfnjpfmmkfaaGreatDoorOCom
set_option maxRecDepth 20000
set_option linter.unusedVariables false
set_option linter.unusedSimpArgs false
namespace G
open W
def LTp (a b : TPoint) : Prop := a.N < b.N ∨ (a.N = b.N ∧ (a.Part < b.Part ∨ (a.Part = b.Part ∧ a.I < b.I)))
def EQp (a b : TPoint) : Prop := a.N = b.N ∧ a.Part = b.Part ∧ a.I = b.I
theorem cmpI_spec (x y : Int) : ∃ c, cmp_Compare_int x y = some c ∧ ((c = -1 ∧ x < y) ∨ (c = 0 ∧ x = y) ∨ (c = 1 ∧ y < x)) := by
  unfold cmp_Compare_int cmp_isNaN_int
  by_cases h1 : x < y
  · exact ⟨-1, by simp [h1], Or.inl ⟨rfl, h1⟩⟩
  · by_cases h2 : y < x
    · exact ⟨1, by simp [h1, h2], Or.inr (Or.inr ⟨rfl, h2⟩)⟩
    · exact ⟨0, by simp [h1, h2], Or.inr (Or.inl ⟨rfl, by omega⟩)⟩
theorem or_eq (x y z : Int) : cmp_Or_int [x, y, z] = some (bif x != 0 then x else bif y != 0 then y else z) := by
  unfold cmp_Or_int
  by_cases hx : x = 0
  · subst hx
    rw [iter_inl (s' := 1) (by rfl)]
    by_cases hy : y = 0
    · subst hy
      rw [iter_inl (s' := 2) (by rfl)]
      by_cases hz : z = 0
      · subst hz
        rw [iter_inl (s' := 3) (by rfl), iter_inr (q := .inr ()) (by rfl)]; rfl
      · have hz' : (z != 0) = true := by simp [hz]
        rw [iter_inr (q := .inl z) (by show (bif (z != 0) then _ else _) = _; rw [hz']; rfl)]; rfl
    · have hy' : (y != 0) = true := by simp [hy]
      rw [iter_inr (q := .inl y) (by show (bif (y != 0) then _ else _) = _; rw [hy']; rfl), hy']; rfl
  · have hx' : (x != 0) = true := by simp [hx]
    rw [iter_inr (q := .inl x) (by show (bif (x != 0) then _ else _) = _; rw [hx']; rfl), hx']; rfl
theorem cmp_spec (a b : TPoint) : ∃ c, point_Compare a b = some c ∧ ((c = -1 ∧ LTp a b) ∨ (c = 0 ∧ EQp a b) ∨ (c = 1 ∧ LTp b a)) := by
  unfold point_Compare LTp EQp;obtain ⟨x, hx, h1⟩ := cmpI_spec a.N b.N;obtain ⟨y, hy, h2⟩ := cmpI_spec a.Part b.Part;obtain ⟨z, hz, h3⟩ := cmpI_spec a.I b.I
  rw [hx, hy, hz]
  simp only [Option.bind_some, or_eq]
  refine ⟨_, rfl, ?_⟩
  rcases h1 with ⟨rfl, h1⟩ | ⟨rfl, h1⟩ | ⟨rfl, h1⟩ <;> rcases h2 with ⟨rfl, h2⟩ | ⟨rfl, h2⟩ | ⟨rfl, h2⟩ <;> rcases h3 with ⟨rfl, h3⟩ | ⟨rfl, h3⟩ | ⟨rfl, h3⟩ <;> simp <;> omega
theorem less_eq (a b : TPoint) : ∃ c, apostilleref10_Less a b = some c ∧ (c = true ↔ LTp a b) := by
  unfold apostilleref10_Less LTp
  by_cases h1 : a.N = b.N
  · by_cases h2 : a.Part = b.Part
    · exact ⟨decide (a.I < b.I), by simp [h1, h2], by simp [h1, h2]⟩
    · have e2 : (a.Part != b.Part) = true := by simp [h2]
      exact ⟨decide (a.Part < b.Part), by rw [e2]; simp [h1], by simp [h1, h2]⟩
  · have e1 : (a.N != b.N) = true := by simp [h1]
    exact ⟨decide (a.N < b.N), by rw [e1]; rfl, by simp [h1]⟩
theorem eqb_eq (a b : TPoint) : (TPoint.eqb a b = true) ↔ EQp a b := by
  unfold TPoint.eqb TPoint.ints EQp; simp
theorem PointOrders_eq (a b c : TPoint) : apostillelaw10_PointOrders a b c = some true := by
  unfold apostillelaw10_PointOrders;obtain ⟨x, hx, h1⟩ := cmp_spec a b;obtain ⟨y, hy, h2⟩ := cmp_spec b c;obtain ⟨z, hz, h3⟩ := cmp_spec a c;obtain ⟨v, hv, h4⟩ := less_eq a b;obtain ⟨u, hu, h5⟩ := cmp_spec b a
  have h6 := eqb_eq a b
  rw [awake10_eq, hx, hy, hz, hv, hu]
  simp only [Option.bind_some, Bool.not_true, cond_false]
  generalize TPoint.eqb a b = w at h6 ⊢
  unfold LTp at h1 h2 h3 h4 h5;unfold EQp at h1 h2 h3 h5 h6
  rcases h1 with ⟨rfl, h1⟩ | ⟨rfl, h1⟩ | ⟨rfl, h1⟩
  · have e4 : v = true := h4.2 h1
    have e6 : w = false := by
      cases w
      · rfl
      · have := h6.1 rfl; omega
    have e5 : u = 1 := by
      rcases h5 with ⟨rfl, h5⟩ | ⟨rfl, h5⟩ | ⟨rfl, h5⟩
      · omega
      · omega
      · rfl
    subst e4 e6 e5
    rcases h2 with ⟨rfl, h2⟩ | ⟨rfl, h2⟩ | ⟨rfl, h2⟩ <;> rcases h3 with ⟨rfl, h3⟩ | ⟨rfl, h3⟩ | ⟨rfl, h3⟩ <;> first | rfl | omega
  · have e4 : v = false := by
      cases v
      · rfl
      · have := h4.1 rfl; omega
    have e6 : w = true := h6.2 h1
    have e5 : u = 0 := by
      rcases h5 with ⟨rfl, h5⟩ | ⟨rfl, h5⟩ | ⟨rfl, h5⟩
      · omega
      · rfl
      · omega
    subst e4 e6 e5
    rcases h2 with ⟨rfl, h2⟩ | ⟨rfl, h2⟩ | ⟨rfl, h2⟩ <;> rcases h3 with ⟨rfl, h3⟩ | ⟨rfl, h3⟩ | ⟨rfl, h3⟩ <;> first | rfl | omega
  · have e4 : v = false := by
      cases v
      · rfl
      · have := h4.1 rfl; omega
    have e6 : w = false := by
      cases w
      · rfl
      · have := h6.1 rfl; omega
    have e5 : u = -1 := by
      rcases h5 with ⟨rfl, h5⟩ | ⟨rfl, h5⟩ | ⟨rfl, h5⟩
      · rfl
      · omega
      · omega
    subst e4 e6 e5
    rfl
end G
