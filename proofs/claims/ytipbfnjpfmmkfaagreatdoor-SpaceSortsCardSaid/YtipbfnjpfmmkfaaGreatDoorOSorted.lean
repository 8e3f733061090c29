/-
  THE ORDER OF DECLARATIONS, plain: a strict order in which two that are level are the same; what is sorted by it is one list. No program, no memory. Conditions: none.
-/
import Derived.Test.YtipbfnjpfmmkfaaGreatDoorOStable5
import Derived.Test.YtipbfnjpfmmkfaaGreatDoorOPoint
set_option maxRecDepth 20000
set_option linter.unusedVariables false
set_option linter.unusedSimpArgs false
namespace G
open W
theorem slt_irrefl : ∀ x : Str, W.lt x x = false
  | [] => rfl
  | a :: x => by
    have h : ¬ (a < a) := by simp
    simp [W.lt, h, slt_irrefl x]
theorem slt_asym : ∀ x y : Str, W.lt x y = true → W.lt y x = false
  | [], [], h => by cases h
  | [], _ :: _, _ => rfl
  | _ :: _, [], h => by cases h
  | a :: x, b :: y, h => by
    simp only [W.lt, Bool.or_eq_true, decide_eq_true_eq, Bool.and_eq_true, beq_iff_eq] at h
    simp only [W.lt, Bool.or_eq_false_iff, decide_eq_false_iff_not, Bool.and_eq_false_iff]
    rcases h with h | ⟨rfl, h⟩
    · refine ⟨by simp only [UInt8.lt_iff_toNat_lt] at h ⊢; omega, Or.inl ?_⟩
      simp only [beq_eq_false_iff_ne, ne_eq]
      rintro rfl; simp at h
    · exact ⟨by simp, Or.inr (slt_asym x y h)⟩
theorem slt_trans : ∀ x y z : Str, W.lt x y = true → W.lt y z = true → W.lt x z = true
  | x, y, [], h, k => by cases y <;> cases k
  | x, [], _ :: _, h, k => by cases x <;> cases h
  | [], _ :: _, _ :: _, h, k => rfl
  | a :: x, b :: y, c :: z, h, k => by
    simp only [W.lt, Bool.or_eq_true, decide_eq_true_eq, Bool.and_eq_true, beq_iff_eq] at h k ⊢
    rcases h with h | ⟨rfl, h⟩ <;> rcases k with k | ⟨rfl, k⟩
    · left; simp only [UInt8.lt_iff_toNat_lt] at h k ⊢; omega
    · exact Or.inl h
    · exact Or.inl k
    · exact Or.inr ⟨rfl, slt_trans x y z h k⟩
theorem slt_total : ∀ x y : Str, W.lt x y = false → W.lt y x = false → x = y
  | [], [], _, _ => rfl
  | [], _ :: _, h, _ => by cases h
  | _ :: _, [], _, h => by cases h
  | a :: x, b :: y, h, k => by
    simp only [W.lt, Bool.or_eq_false_iff, decide_eq_false_iff_not, Bool.and_eq_false_iff, beq_eq_false_iff_ne, ne_eq] at h k
    have hab : a = b := by
      have h1 := h.1; have k1 := k.1
      simp only [UInt8.lt_iff_toNat_lt] at h1 k1
      exact UInt8.toNat_inj.1 (by omega)
    subst hab
    have e1 := h.2.resolve_left (by simp)
    have e2 := k.2.resolve_left (by simp)
    rw [slt_total x y e1 e2]
theorem slt_nt (x y z : Str) (h : W.lt x y = false) (k : W.lt y z = false) : W.lt x z = false := by
  cases e : W.lt x z with
  | false => rfl
  | true =>
    cases e2 : W.lt y x with
    | true => have := slt_trans y x z e2 e; rw [k] at this; cases this
    | false => have := slt_total x y h e2; subst this; rw [k] at e; cases e
def dlt (a b : TDecl) : Bool := bif a.Prefix == b.Prefix then W.lt a.URI b.URI else W.lt a.Prefix b.Prefix
theorem cmpS_spec (x y : Str) : ∃ c, cmp_Compare_string x y = some c ∧ ((c = -1 ∧ W.lt x y = true) ∨ (c = 0 ∧ x = y) ∨ (c = 1 ∧ W.lt y x = true)) := by
  unfold cmp_Compare_string cmp_isNaN_string
  cases h1 : W.lt x y with
  | true => exact ⟨-1, by simp, Or.inl ⟨rfl, rfl⟩⟩
  | false =>
    by_cases h2 : x = y
    · exact ⟨0, by simp [h2], Or.inr (Or.inl ⟨rfl, h2⟩)⟩
    · have e2 : (x == y) = false := by simpa using h2
      refine ⟨1, by simp [e2], Or.inr (Or.inr ⟨rfl, ?_⟩)⟩
      cases h3 : W.lt y x with
      | true => rfl
      | false => exact absurd (slt_total x y h1 h3) h2
theorem or2_eq (x y : Int) : cmp_Or_int [x, y] = some (bif x != 0 then x else y) := by
  unfold cmp_Or_int
  by_cases hx : x = 0
  · subst hx
    rw [iter_inl (s' := 1) (by rfl)]
    by_cases hy : y = 0
    · subst hy
      rw [iter_inl (s' := 2) (by rfl), iter_inr (q := .inr ()) (by rfl)]; rfl
    · have hy' : (y != 0) = true := by simp [hy]
      rw [iter_inr (q := .inl y) (by show (bif (y != 0) then _ else _) = _; rw [hy']; rfl)]; rfl
  · have hx' : (x != 0) = true := by simp [hx]
    rw [iter_inr (q := .inl x) (by show (bif (x != 0) then _ else _) = _; rw [hx']; rfl), hx']; rfl
theorem dlt_asym (x y : TDecl) (h : dlt x y = true) : dlt y x = false := by
  unfold dlt at *
  by_cases e : x.Prefix = y.Prefix
  · rw [e] at h ⊢
    simp only [BEq.rfl, cond_true] at h ⊢
    exact slt_asym _ _ h
  · have e1 : (x.Prefix == y.Prefix) = false := by simpa using e
    have e2 : (y.Prefix == x.Prefix) = false := by simp only [beq_eq_false_iff_ne, ne_eq]; exact fun h => e h.symm
    rw [e1] at h; rw [e2]
    exact slt_asym _ _ h
theorem dlt_total (x y : TDecl) (h : dlt x y = false) (k : dlt y x = false) : x = y := by
  unfold dlt at *
  have e : x.Prefix = y.Prefix := by
    cases e1 : x.Prefix == y.Prefix with
    | true => simpa using e1
    | false =>
      have e2 : (y.Prefix == x.Prefix) = false := by
        simp only [beq_eq_false_iff_ne, ne_eq] at e1 ⊢; exact fun h => e1 h.symm
      rw [e1] at h; rw [e2] at k
      exact slt_total _ _ h k
  rw [e] at h k
  simp only [BEq.rfl, cond_true] at h k
  have := slt_total _ _ h k
  cases x; cases y; simp_all
theorem dlt_nt (x y z : TDecl) (h : dlt x y = false) (k : dlt y z = false) : dlt x z = false := by
  unfold dlt at *
  by_cases e1 : x.Prefix = y.Prefix
  · by_cases e2 : y.Prefix = z.Prefix
    · rw [e1, e2] at h ⊢
      rw [e2] at k
      simp only [BEq.rfl, cond_true] at h k ⊢
      exact slt_nt _ _ _ h k
    · have e2' : (y.Prefix == z.Prefix) = false := by simpa using e2
      rw [e2'] at k
      rw [e1, e2']; exact k
  · have e1' : (x.Prefix == y.Prefix) = false := by simpa using e1
    rw [e1'] at h
    by_cases e2 : y.Prefix = z.Prefix
    · rw [← e2, e1']; exact h
    · have e2' : (y.Prefix == z.Prefix) = false := by simpa using e2
      rw [e2'] at k
      have e3 := slt_nt _ _ _ h k
      cases e4 : x.Prefix == z.Prefix with
      | false => exact e3
      | true =>
        have e4 : x.Prefix = z.Prefix := by simpa using e4
        rw [e4] at h
        exact absurd (slt_total _ _ k h) e2
theorem cmp_d : CmpD (fun x0 x1 => space_Sorted_c1 x0 x1) dlt where
  val := fun a b => by
    unfold space_Sorted_c1;obtain ⟨x, hx, h1⟩ := cmpS_spec a.Prefix b.Prefix;obtain ⟨y, hy, h2⟩ := cmpS_spec a.URI b.URI;refine ⟨bif x != 0 then x else y, by rw [hx, hy]; simp only [Option.bind_some, or2_eq], ?_⟩;unfold dlt
    rcases h1 with ⟨rfl, h1⟩ | ⟨rfl, h1⟩ | ⟨rfl, h1⟩
    · have e : (a.Prefix == b.Prefix) = false := by
        simp only [beq_eq_false_iff_ne, ne_eq]; intro e; rw [e, slt_irrefl] at h1; cases h1
      rw [e, h1]; rfl
    · rw [h1]
      simp only [BEq.rfl, cond_true]
      rcases h2 with ⟨rfl, h2⟩ | ⟨rfl, h2⟩ | ⟨rfl, h2⟩
      · rw [h2]; rfl
      · rw [h2, slt_irrefl]; rfl
      · rw [slt_asym _ _ h2]; rfl
    · have e : (a.Prefix == b.Prefix) = false := by
        simp only [beq_eq_false_iff_ne, ne_eq]; intro e; rw [e, slt_irrefl] at h1; cases h1
      rw [e, slt_asym _ _ h1]; rfl
  asym := dlt_asym
  nt := dlt_nt
theorem sd_unique : ∀ l m : List TDecl, l.Perm m → Sd dlt l → Sd dlt m → l = m
  | [], m, h, _, _ => (List.Perm.nil_eq h)
  | a :: l, m, h, hl, hm => by
    cases m with
    | nil => exact absurd h.symm (by simp)
    | cons b m =>
      obtain ⟨k1, k2⟩ := Sd_cons.1 hl;obtain ⟨j1, j2⟩ := Sd_cons.1 hm
      have hab : a = b := by
        have ha : a ∈ b :: m := h.mem_iff.1 (by simp)
        have hb : b ∈ a :: l := h.mem_iff.2 (by simp)
        rcases List.mem_cons.1 ha with rfl | ha
        · rfl
        · rcases List.mem_cons.1 hb with rfl | hb
          · rfl
          · exact dlt_total _ _ (j1 a ha) (k1 b hb)
      subst hab
      rw [sd_unique l m ((List.perm_cons a).1 h) k2 j2]
theorem clone_d (l : List TDecl) (h : l.length < 4398046511104) : slices_Clone_Decl l = some l := by
  unfold slices_Clone_Decl
  rw [app_of (by simp; omega)]; rfl
theorem sorted_ok (l : List TDecl) (hl : l.length < 4398046511104) : ∃ l', space_Sorted l = some l' ∧ l'.Perm l ∧ Sd dlt l' := by
  obtain ⟨l', k1, k2, k3⟩ := stable_ok cmp_d l (by omega);refine ⟨l', ?_, k2, k3⟩;unfold space_Sorted
  rw [clone_d l hl]
  rw [Option.bind_some, k1, Option.bind_some, eqn_of k2.length_eq]; rfl
end G
