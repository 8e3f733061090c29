/-
  AxisNames, plain: an axis's name, the axis of a name, and its order, for all numbers and texts. No program, no memory. Conditions: none.
-/
import Derived.Test.YtipbfnjpfmmkfaaGreatDoorOCom
set_option maxRecDepth 20000
set_option linter.unusedVariables false
set_option linter.unusedSimpArgs false
namespace G
open W
noncomputable def anames : List Str := axis_names.getD []
theorem anames_eq : axis_names = some anames := rfl
theorem anames_len : anames.length = 13 := rfl
theorem axis_name_eq (a : Int) : axis_Name a = apostilleref13_Name a := by
  by_cases h : 0 ≤ a ∧ a < 13
  · obtain ⟨n, rfl⟩ : ∃ n : Nat, a = (n : Int) := ⟨a.toNat, by omega⟩
    have hn : n < 13 := by omega
    match n, hn with
    | 0, _ => rfl
    | 1, _ => rfl
    | 2, _ => rfl
    | 3, _ => rfl
    | 4, _ => rfl
    | 5, _ => rfl
    | 6, _ => rfl
    | 7, _ => rfl
    | 8, _ => rfl
    | 9, _ => rfl
    | 10, _ => rfl
    | 11, _ => rfl
    | 12, _ => rfl
    | n + 13, hn => omega
  · have e : ∀ k : Int, 0 ≤ k → k < 13 → (a == k) = false := fun k h1 h2 => by simp; omega
    have r : apostilleref13_Name a = some [] := by
      unfold apostilleref13_Name
      rw [e 0 (by decide) (by decide), e 1 (by decide) (by decide), e 2 (by decide) (by decide), e 3 (by decide) (by decide), e 4 (by decide) (by decide), e 5 (by decide) (by decide), e 6 (by decide) (by decide), e 7 (by decide) (by decide), e 8 (by decide) (by decide), e 9 (by decide) (by decide), e 10 (by decide) (by decide), e 11 (by decide) (by decide), e 12 (by decide) (by decide)]; rfl
    rw [r]
    unfold axis_Name
    by_cases h1 : a < 0
    · simp [h1]
    · have h2 : a ≥ 13 := by omega
      rw [anames_eq]
      simp only [Option.bind_some]
      have : decide (a < 0) = false := by simp; omega
      have hd : decide (a ≥ (anames.length : Int)) = true := by rw [decide_eq_true_eq, anames_len]; omega
      rw [this, hd]; rfl
theorem ref_name (n : Nat) (h : n < 13) : apostilleref13_Name (n : Int) = some (anames.getD n []) := by
  match n, h with
  | 0, _ => rfl
  | 1, _ => rfl
  | 2, _ => rfl
  | 3, _ => rfl
  | 4, _ => rfl
  | 5, _ => rfl
  | 6, _ => rfl
  | 7, _ => rfl
  | 8, _ => rfl
  | 9, _ => rfl
  | 10, _ => rfl
  | 11, _ => rfl
  | 12, _ => rfl
  | n + 13, hn => omega
theorem axis_back_eq (a : Int) : axis_Back a = apostilleref13_Back a := by
  unfold axis_Back apostilleref13_Back
  cases a == 2 <;> cases a == 5 <;> cases a == 6 <;> cases a == 12 <;> cases a == 10 <;> rfl
theorem back_some (a : Int) : ∃ v, apostilleref13_Back a = some v := by
  unfold apostilleref13_Back
  cases a == 2 <;> cases a == 5 <;> cases a == 6 <;> cases a == 12 <;> cases a == 10 <;> exact ⟨_, rfl⟩
theorem name_some (a : Int) : ∃ v, apostilleref13_Name a = some v := by
  rw [← axis_name_eq]
  unfold axis_Name
  by_cases h : a < 0
  · exact ⟨[], by simp [h]⟩
  · by_cases h2 : a ≥ 13
    · exact ⟨[], by
        have hd : decide (a ≥ (anames.length : Int)) = true := by rw [decide_eq_true_eq, anames_len]; omega
        rw [anames_eq]; simp only [Option.bind_some]; rw [show decide (a < 0) = false by simp; omega, hd]; rfl⟩
    · obtain ⟨n, rfl⟩ : ∃ n : Nat, a = (n : Int) := ⟨a.toNat, by omega⟩;refine ⟨anames.getD n [], ?_⟩
      have := ref_name n (by omega)
      rw [← axis_name_eq] at this
      exact this
theorem idx_hit (k : Nat) (h : k < 13) : slices_Index_string anames (anames.getD k []) = some (k : Int) := by
  unfold slices_Index_string
  match k, h with
  | 0, _ => rw [iter_of (n := 20) (q := .inl 0) (by kernel_rfl)]; rfl
  | 1, _ => rw [iter_of (n := 20) (q := .inl 1) (by kernel_rfl)]; rfl
  | 2, _ => rw [iter_of (n := 20) (q := .inl 2) (by kernel_rfl)]; rfl
  | 3, _ => rw [iter_of (n := 20) (q := .inl 3) (by kernel_rfl)]; rfl
  | 4, _ => rw [iter_of (n := 20) (q := .inl 4) (by kernel_rfl)]; rfl
  | 5, _ => rw [iter_of (n := 20) (q := .inl 5) (by kernel_rfl)]; rfl
  | 6, _ => rw [iter_of (n := 20) (q := .inl 6) (by kernel_rfl)]; rfl
  | 7, _ => rw [iter_of (n := 20) (q := .inl 7) (by kernel_rfl)]; rfl
  | 8, _ => rw [iter_of (n := 20) (q := .inl 8) (by kernel_rfl)]; rfl
  | 9, _ => rw [iter_of (n := 20) (q := .inl 9) (by kernel_rfl)]; rfl
  | 10, _ => rw [iter_of (n := 20) (q := .inl 10) (by kernel_rfl)]; rfl
  | 11, _ => rw [iter_of (n := 20) (q := .inl 11) (by kernel_rfl)]; rfl
  | 12, _ => rw [iter_of (n := 20) (q := .inl 12) (by kernel_rfl)]; rfl
  | k + 13, h => omega
theorem loop_hit (k : Nat) (h : k < 13) : iter (apostillelaw13_AxisNames_b1 (anames.getD k [])) (0, false, 0) = some ((k : Int), true) := by
  match k, h with
  | 0, _ => exact iter_of (n := 20) (by kernel_rfl)
  | 1, _ => exact iter_of (n := 20) (by kernel_rfl)
  | 2, _ => exact iter_of (n := 20) (by kernel_rfl)
  | 3, _ => exact iter_of (n := 20) (by kernel_rfl)
  | 4, _ => exact iter_of (n := 20) (by kernel_rfl)
  | 5, _ => exact iter_of (n := 20) (by kernel_rfl)
  | 6, _ => exact iter_of (n := 20) (by kernel_rfl)
  | 7, _ => exact iter_of (n := 20) (by kernel_rfl)
  | 8, _ => exact iter_of (n := 20) (by kernel_rfl)
  | 9, _ => exact iter_of (n := 20) (by kernel_rfl)
  | 10, _ => exact iter_of (n := 20) (by kernel_rfl)
  | 11, _ => exact iter_of (n := 20) (by kernel_rfl)
  | 12, _ => exact iter_of (n := 20) (by kernel_rfl)
  | k + 13, h => omega
theorem idx_miss (s : Str) (hs : ∀ k, k < 13 → anames.getD k [] ≠ s) : slices_Index_string anames s = some (-1) := by
  have key : ∀ (m k : Nat), k + m = 13 → iter (slices_Index_string_b1 anames s) (k : Int) = some (.inr ()) := by
    intro m
    induction m with
    | zero =>
      intro k hk
      obtain rfl : k = 13 := hk;exact iter_inr (by rfl)
    | succ m ih =>
      intro k hk
      rw [← ih (k + 1) (by omega)]
      have hw : w64 ((k : Int) + 1) = ((k + 1 : Nat) : Int) := w64_add1 (by omega)
      rw [← hw]
      refine iter_inl ?_;unfold slices_Index_string_b1
      have h1 : decide ((k : Int) < (anames.length : Int)) = true := by rw [anames_len]; simp; omega
      have h2 : anames[k]? = some (anames.getD k []) := by
        rw [List.getD_eq_getElem?_getD, List.getElem?_eq_getElem (by rw [anames_len]; omega)]; rfl
      have h3 : (s == anames.getD k []) = false := by
        have := hs k (by omega)
        simp only [beq_eq_false_iff_ne, ne_eq]
        exact fun e => this e.symm
      rw [h1, at'_nat, h2]
      simp only [cond_true, Option.bind_some, h3, cond_false]
  unfold slices_Index_string
  rw [show (0 : Int) = ((0 : Nat) : Int) from rfl, key 13 0 rfl]; rfl
theorem loop_miss (s : Str) (hs : ∀ k, k < 13 → anames.getD k [] ≠ s) : iter (apostillelaw13_AxisNames_b1 s) (0, false, 0) = some (0, false) := by
  have key : ∀ (m k : Nat), k + m = 13 → iter (apostillelaw13_AxisNames_b1 s) (0, false, (k : Int)) = some (0, false) := by
    intro m
    induction m with
    | zero =>
      intro k hk
      obtain rfl : k = 13 := hk;exact iter_inr (by rfl)
    | succ m ih =>
      intro k hk
      rw [← ih (k + 1) (by omega)]
      have hw : w64 ((k : Int) + 1) = ((k + 1 : Nat) : Int) := w64_add1 (by omega)
      rw [← hw]
      refine iter_inl ?_;unfold apostillelaw13_AxisNames_b1
      have h1 : decide ((k : Int) < 13) = true := by simp; omega
      have h3 : (anames.getD k [] == s) = false := by
        have := hs k (by omega)
        simp only [beq_eq_false_iff_ne, ne_eq]
        exact this
      simp only [h1, cond_true, ref_name k (by omega), Option.bind_some, h3, cond_false]
  exact key 13 0 rfl
theorem AxisNames_eq (a : Int) (s : Str) : apostillelaw13_AxisNames a s = some true := by
  unfold apostillelaw13_AxisNames
  rw [awake13_eq]
  simp only [Option.bind_some, Bool.not_true, cond_false]
  by_cases hl : (s.length : Int) > 200
  · rw [show decide ((s.length : Int) > 200) = true by simp; omega]; rfl
  · rw [show decide ((s.length : Int) > 200) = false by simp; omega]
    simp only [cond_false, axis_Of, anames_eq, Option.bind_some]
    obtain ⟨v, hv⟩ := name_some a;obtain ⟨u, hu⟩ := back_some a
    rw [axis_name_eq, axis_back_eq, hv, hu]
    by_cases h : ∃ k, k < 13 ∧ anames.getD k [] = s
    · obtain ⟨k, hk, rfl⟩ := h
      rw [idx_hit k hk, loop_hit k hk]
      have h1 : mx (k : Int) 0 = (k : Int) := by unfold mx; simp; omega
      have h2 : decide ((k : Int) ≥ 0) = true := by simp
      simp [h1, h2]
    · have hs : ∀ k, k < 13 → anames.getD k [] ≠ s := fun k hk e => h ⟨k, hk, e⟩
      rw [idx_miss s hs, loop_miss s hs]
      have h1 : mx (-1) 0 = 0 := rfl
      simp [h1]
end G
