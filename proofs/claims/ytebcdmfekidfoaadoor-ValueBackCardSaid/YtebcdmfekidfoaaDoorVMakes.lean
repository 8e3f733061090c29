/-
  PLAIN LAW: ValueMakes. No program, no memory. Conditions: none.
-/
import Derived.Test.YtebcdmfekidfoaaDoorVRef
import Derived.Test.YtebcdmfekidfoaaDoorVNodes3
set_option linter.unusedVariables false
set_option linter.unusedSimpArgs false
namespace G
open W
theorem equal_loop (a b : List TPoint) (hl : a.length = b.length) (hs : a.length < 4611686018427387904) : ∀ (d i : Nat), d = a.length - i → iter (slices_Equal_Point_b1 a b) (i : Int) = some (if a.drop i = b.drop i then .inr () else .inl ())
  | d, i, hd => by
    by_cases hi : i < a.length
    · have hi' : i < b.length := by omega
      have hb : slices_Equal_Point_b1 a b (i : Int) = if a[i] = b[i] then some (.inl ((i + 1 : Nat) : Int)) else some (.inr (Sum.inl ())) := by
        unfold slices_Equal_Point_b1
        rw [show decide ((i : Int) < (a.length : Int)) = true by simp; omega]
        simp only [cond_true]
        rw [at_of hi, at_of hi']
        simp only [Option.bind_some]
        rw [w64_add1 (by omega), eqb_dec]
        by_cases hp : a[i] = b[i] <;> simp [hp]
      simp only [drop_eq_iff hi hi']
      by_cases hp : a[i] = b[i]
      · rw [if_pos hp] at hb
        rw [iter_inl hb]
        match d, hd with
        | d + 1, hd =>
          rw [equal_loop a b hl hs d (i + 1) (by omega)]
          simp [hp]
        | 0, hd => omega
      · rw [if_neg hp] at hb
        rw [iter_inr hb]; simp [hp]
    · have hb : slices_Equal_Point_b1 a b (i : Int) = some (.inr (Sum.inr ())) := by
        unfold slices_Equal_Point_b1
        rw [show decide ((i : Int) < (a.length : Int)) = false by simp; omega]; rfl
      rw [iter_inr hb, if_pos]
      rw [List.drop_eq_nil_of_le (by omega), List.drop_eq_nil_of_le (by omega)]
theorem equal_eq (a b : List TPoint) (hs : a.length < 4611686018427387904) : slices_Equal_Point a b = some (decide (a = b)) := by
  unfold slices_Equal_Point
  by_cases hl : a.length = b.length
  · rw [show ((a.length : Int) != (b.length : Int)) = false by simp [hl]]
    simp only [cond_false]
    have := equal_loop a b hl hs (a.length - 0) 0 rfl
    rw [show (0 : Int) = ((0 : Nat) : Int) from rfl, this]
    by_cases h : a = b <;> simp [h]
  · rw [show ((a.length : Int) != (b.length : Int)) = true by simp; omega]
    simp only [cond_true]
    rw [show decide (a = b) = false by simp; intro h; exact hl (by rw [h])]
/-- Two values alike. -/
def veq (a b : TValue) : Bool := bif (a.Kind == b.Kind) then (bif decide (a.Set = b.Set) then (bif (a.Bool_ == b.Bool_) then (bif (a.N == b.N) then (bif (a.NaN == b.NaN) then (a.Text == b.Text) else false) else false) else false) else false) else false
theorem veq_self (a : TValue) : veq a a = true := by simp [veq]
theorem vsame_eq (a b : TValue) (h : a.Set.length < 4611686018427387904) : value_Same a b = some (veq a b) := by
  unfold value_Same veq
  rw [equal_eq _ _ h]
  simp only [Option.bind_some]
  cases (a.Kind == b.Kind) <;> cases decide (a.Set = b.Set) <;> cases (a.Bool_ == b.Bool_) <;> cases (a.N == b.N) <;> cases (a.NaN == b.NaN) <;> rfl
theorem rsame_eq (a b : TValue) (h : a.Set.length < 4611686018427387904) : apostilleref16_Same a b = some (veq a b) := by
  unfold apostilleref16_Same veq
  rw [same_eq _ _ h]
  simp only [Option.bind_some]
  cases (a.Kind == b.Kind) <;> cases decide (a.Set = b.Set) <;> cases (a.Bool_ == b.Bool_) <;> cases (a.N == b.N) <;> cases (a.NaN == b.NaN) <;> rfl
theorem Number_eq (n : Int) : apostilleref16_Number n = some (ofN n) := by
  rw [← OfNumber_eq]
  unfold apostilleref16_Number value_OfNumber
  by_cases h1 : n > 9007199254740992
  · rw [show decide (n > 9007199254740992) = true by simpa using h1, show decide (n < -9007199254740992) = false by simp only [decide_eq_false_iff_not]; omega]; rfl
  · rw [show decide (n > 9007199254740992) = false by simpa using h1]
    by_cases h2 : n < -9007199254740992
    · rw [show decide (n < -9007199254740992) = true by simpa using h2]; rfl
    · rw [show decide (n < -9007199254740992) = false by simpa using h2]
theorem ValueMakes_eq (l : List TPoint) (n : Int) (s : Str) (b : Bool) : apostillelaw16_ValueMakes l n s b = some true := by
  unfold apostillelaw16_ValueMakes
  rw [awake16]
  simp only [Option.bind_some, Bool.not_true, cond_false]
  by_cases hl : l.length > 40
  · rw [show decide ((l.length : Int) > 40) = true by simp; omega]; rfl
  rw [show decide ((l.length : Int) > 40) = false by simp; omega]
  simp only [cond_false]
  by_cases hs : s.length > 200
  · rw [show decide ((s.length : Int) > 200) = true by simp; omega]; rfl
  rw [show decide ((s.length : Int) > 200) = false by simp; omega]
  simp only [Option.bind_some, cond_false]
  obtain ⟨r, h1, h2⟩ := of_eq l (by omega)
  obtain ⟨r', h3, h4⟩ := ref_of l (by omega)
  have e := h4.unique h2
  subst e
  have hr := h2.length_le
  unfold value_OfSet value_OfTruth value_OfText value_None apostilleref16_None
  rw [h1]
  simp only [Option.bind_some, OfNumber_eq, Number_eq]
  have hset : (ofN n).1.Set = [] := ofN_set n
  rw [rsame_eq _ _ (by rw [hset]; decide)]
  simp only [Option.bind_some, veq_self, Bool.not_true, cond_false, bne_self_eq_false]
  rw [rsame_eq _ _ (by show ([] : List TPoint).length < _; decide)]
  simp only [Option.bind_some, veq_self, Bool.not_true, cond_false]
  rw [h3]
  simp only [Option.bind_some]
  rw [rsame_eq _ _ (by show r'.length < _; omega)]
  simp only [Option.bind_some, veq_self, cond_true]
  rw [rsame_eq _ _ (by show ([] : List TPoint).length < _; decide)]
  simp only [Option.bind_some, veq_self, cond_true]
  rw [rsame_eq _ _ (by show ([] : List TPoint).length < _; decide)]
  simp only [Option.bind_some, veq_self, cond_true]
  rw [vsame_eq _ _ (by show r'.length < _; omega)]
  simp only [Option.bind_some, veq_self, cond_true]
  rw [vsame_eq _ _ (by show ([] : List TPoint).length < _; decide)]
  simp only [Option.bind_some]
  rw [show veq (TValue.mk 1 [] b 0 false []) (TValue.mk 3 [] false 0 false s) = false from rfl]
  simp only [Bool.not_false, cond_true]
  rw [vsame_eq _ _ (by rw [hset]; decide), rsame_eq _ _ (by rw [hset]; decide)]
  simp
end G
