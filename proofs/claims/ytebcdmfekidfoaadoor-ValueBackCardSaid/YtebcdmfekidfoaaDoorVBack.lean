/-
  PLAIN LAW: ValueBack: a number's text is read as the number. No program, no memory. Conditions: none.
-/
import Derived.Test.YtebcdmfekidfoaaDoorVMakes
import Derived.Lib.ItoaNum
set_option linter.unusedVariables false
set_option linter.unusedSimpArgs false
namespace G
open W Go.Lib
theorem dig_toNat {u : Nat} (h : u < 10) : (UInt8.ofNat (48 + u)).toNat = 48 + u := by
  rw [UInt8.toNat_ofNat']; omega
theorem decDigits_all (u : Nat) : (decDigits u).all isD = true := by
  induction u using Nat.strongRecOn with
  | ind u ih =>
    rw [decDigits]
    split
    · rename_i h
      simp only [List.all_cons, List.all_nil, Bool.and_true, isD, dig_toNat h]
      simp; omega
    · rename_i h
      rw [List.all_append, ih (u / 10) (by omega)]
      have := dig_toNat (u := u % 10) (by omega)
      simp only [List.all_cons, List.all_nil, Bool.and_true, Bool.true_and, isD, this]
      simp; omega
theorem decDigits_ne (u : Nat) : decDigits u ≠ [] := by
  rw [decDigits]
  split <;> simp
theorem decDigits_len (u : Nat) : (decDigits u).length ≤ u + 1 := by
  induction u using Nat.strongRecOn with
  | ind u ih =>
    rw [decDigits]
    split
    · simp
    · rename_i h
      have := ih (u / 10) (by omega)
      simp only [List.length_append, List.length_cons, List.length_nil]
      omega
theorem val_snoc : ∀ (l : Str) (n : Int) (c : UInt8), val n (l ++ [c]) = mn (val n l * 10 + dv c) (most + 1)
  | [], n, c => rfl
  | a :: l, n, c => by
    show val (mn (n * 10 + dv a) (most + 1)) (l ++ [c]) = _
    rw [val_snoc l]; rfl
theorem dv_dig {u : Nat} (h : u < 10) : dv (UInt8.ofNat (48 + u)) = (u : Int) := by
  unfold dv; rw [dig_toNat h]; omega
theorem decDigits_val (u : Nat) (hu : (u : Int) ≤ most) : val 0 (decDigits u) = (u : Int) := by
  induction u using Nat.strongRecOn with
  | ind u ih =>
    rw [decDigits]
    split
    · rename_i h
      show mn (0 * 10 + dv _) (most + 1) = _
      rw [dv_dig h]
      unfold mn; split <;> omega
    · rename_i h
      rw [val_snoc, ih (u / 10) (by omega) (by omega), dv_dig (by omega)]
      unfold mn; split <;> omega
theorem digit_plain {c : UInt8} (h : isD c = true) : blank c = false ∧ c ≠ 45 ∧ c ≠ 46 := by
  simp only [isD, Bool.and_eq_true, decide_eq_true_eq] at h
  refine ⟨?_, ?_, ?_⟩
  · unfold blank
    have e : ∀ k : UInt8, k.toNat < 48 → (c == k) = false := fun k hk => by
      rw [beq_eq_false_iff_ne]; rintro rfl; omega
    rw [e 32 (by decide), e 9 (by decide), e 10 (by decide), e 13 (by decide)]; rfl
  · rintro rfl; exact absurd h.1 (by decide)
  · rintro rfl; exact absurd h.1 (by decide)
theorem trim_solid {l : Str} (h : ∀ c ∈ l, blank c = false) : trim l = l := by
  unfold trim
  have h1 : l.dropWhile blank = l := by
    cases l with
    | nil => rfl
    | cons a r => rw [List.dropWhile_cons, h a (by simp)]; rfl
  rw [h1]
  unfold trimR
  have h2 : l.reverse.dropWhile blank = l.reverse := by
    cases hr : l.reverse with
    | nil => rfl
    | cons a r =>
      have : a ∈ l := by rw [← List.mem_reverse, hr]; simp
      rw [List.dropWhile_cons, h a this]; rfl
  rw [h2, List.reverse_reverse]
theorem cutDot_solid : ∀ {l : Str}, 46 ∉ l → cutDot l = (l, [])
  | l, h => by
    rcases cutDot_cases l with ⟨_, h2⟩ | ⟨u, v, h1, _, _⟩
    · exact h2
    · exact absurd (by rw [h1]; simp) h
theorem readD_digits (u : Nat) (hu : (u : Int) ≤ most) (below : Bool) : readD (decDigits u) below = ofN (if below then -(u : Int) else (u : Int)) := by
  have hall := decDigits_all u
  have h46 : (46 : UInt8) ∉ decDigits u := fun hm => (digit_plain (List.all_eq_true.1 hall 46 hm)).2.2 rfl
  unfold readD
  rw [cutDot_solid h46]
  have hne : (decDigits u == ([] : Str)) = false := by rw [beq_eq_false_iff_ne]; exact decDigits_ne u
  simp only [hall, hne, List.all_nil, Bool.not_true, Bool.or_self, Bool.false_and, Bool.false_eq_true, if_false, decDigits_val u hu]
theorem Read_itoa (n : Int) (h1 : -most ≤ n) (h2 : n ≤ most) (hs : Sh (itoa n)) : value_Read (itoa n) = some (ofN n) := by
  rw [Read_eq _ hs]
  congr 1
  by_cases h : n < 0
  · have e : itoa n = 45 :: decDigits n.natAbs := by unfold itoa; rw [if_pos h]
    have ht : trim (itoa n) = itoa n := by
      rw [e]
      refine trim_solid fun c hc => ?_
      rcases List.mem_cons.1 hc with rfl | hc
      · rfl
      · exact (digit_plain (List.all_eq_true.1 (decDigits_all _) c hc)).1
    have hsg : signed (45 :: decDigits n.natAbs) = (decDigits n.natAbs, true) := rfl
    rw [ht, e, hsg]
    rw [readD_digits _ (by omega)]
    simp only [if_true]
    congr 1; omega
  · have e : itoa n = decDigits n.toNat := by unfold itoa; rw [if_neg h]
    have ht : trim (itoa n) = itoa n := by
      rw [e]
      exact trim_solid fun c hc => (digit_plain (List.all_eq_true.1 (decDigits_all _) c hc)).1
    have hsg : signed (decDigits n.toNat) = (decDigits n.toNat, false) := by
      cases hd : decDigits n.toNat with
      | nil => exact absurd hd (decDigits_ne _)
      | cons a r =>
        have ha : a ≠ 45 := (digit_plain (List.all_eq_true.1 (decDigits_all n.toNat) a (by rw [hd]; simp))).2.1
        simp [signed, cut1, ha]
    rw [ht, e, hsg, readD_digits _ (by omega)]
    simp only [Bool.false_eq_true, if_false]
    congr 1; omega
theorem decDigits_short : ∀ (k u : Nat), u < 10 ^ (k + 1) → (decDigits u).length ≤ k + 1
  | 0, u, h => by rw [decDigits, dif_pos (by simpa using h)]; simp
  | k + 1, u, h => by
    rw [decDigits]
    split
    · simp
    · have := decDigits_short k (u / 10) (by rw [Nat.pow_succ] at h; omega)
      simp only [List.length_append, List.length_cons, List.length_nil]
      omega
theorem itoa_sh (n : Int) (h1 : -most ≤ n) (h2 : n ≤ most) : Sh (itoa n) := by
  have e : (10 : Nat) ^ (16 + 1) = 100000000000000000 := by decide
  have hm : most = 9007199254740992 := rfl
  show (itoa n).length ≤ 1000000000000
  unfold itoa
  split
  · have := decDigits_short 16 n.natAbs (by rw [e]; omega)
    simp only [List.length_cons]; omega
  · have := decDigits_short 16 n.toNat (by rw [e]; omega)
    omega
theorem ofN_in (n : Int) (h1 : -most ≤ n) (h2 : n ≤ most) : ofN n = (numV n, 0) := by
  unfold ofN
  rw [if_neg (by omega), if_neg (by omega)]
theorem AsText_num (n : Int) (h1 : -most ≤ n) (h2 : n ≤ most) : value_AsText none (numV n) = some (itoa n) := by
  have hm : most = 9007199254740992 := rfl
  have hf : strconv_FormatInt n 10 = some (itoa n) := by
    unfold strconv_FormatInt
    rw [decide_eq_true (show (10 : Int) = 10 ∧ -9223372036854775808 ≤ n ∧ n ≤ 9223372036854775807 from ⟨rfl, by omega, by omega⟩)]
    rfl
  unfold value_AsText numV
  show ((strconv_FormatInt n 10).bind fun v4 => some v4) = _
  rw [hf]; rfl
theorem ValueBack_eq (n : Int) : apostillelaw16_ValueBack n = some true := by
  unfold apostillelaw16_ValueBack
  rw [awake16]
  simp only [Option.bind_some, Bool.not_true, cond_false]
  by_cases h1 : n > 9007199254740992
  · rw [show decide (n > 9007199254740992) = true by simpa using h1]; rfl
  rw [show decide (n > 9007199254740992) = false by simpa using h1]
  by_cases h2 : n < -9007199254740992
  · rw [show decide (n < -9007199254740992) = true by simpa using h2]; rfl
  rw [show decide (n < -9007199254740992) = false by simpa using h2]
  have h1 : n ≤ most := by show n ≤ 9007199254740992; omega
  have h2 : -most ≤ n := by show -9007199254740992 ≤ n; omega
  simp only [Option.bind_some, cond_false, OfNumber_eq, ofN_in n h2 h1, AsText_num n h2 h1, Read_itoa n h2 h1 (itoa_sh n h2 h1)]
  rw [vsame_eq _ _ (by show ([] : List TPoint).length < _; decide)]
  simp [veq_self]
end G
