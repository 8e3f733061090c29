/-
  PLAIN LAWS: what number a text is, by both texts. No program, no memory. Conditions: none.
-/
import Derived.Test.YtebcdmfekidfoaaDoorPText
set_option linter.unusedVariables false
set_option linter.unusedSimpArgs false
namespace G
open W
def isD (c : UInt8) : Bool := decide (48 ≤ c.toNat) && decide (c.toNat ≤ 57)
theorem dig_c1 (n : Nat) : value_digits_c1 (n : Int) = some (!(decide (48 ≤ n) && decide (n ≤ 57))) := by
  unfold value_digits_c1
  by_cases h : n < 48
  · rw [show decide ((n : Int) < 48) = true by simp; omega]
    simp; omega
  · rw [show decide ((n : Int) < 48) = false by simp; omega]
    simp only [cond_false, Option.some.injEq]
    rw [Bool.eq_iff_iff]
    simp; omega
theorem dec_small (s : Str) (i : Nat) (h : i < s.length) (hc : s[i].toNat < 128) : dec s i = (s[i].toNat, 1) := by
  unfold dec
  simp only [Nat.add_zero, List.getD_eq_getElem?_getD, List.getElem?_eq_getElem h, Option.getD_some, hc, if_true]
theorem dec_great (s : Str) (i : Nat) (h : i < s.length) (hc : ¬ s[i].toNat < 128) : 128 ≤ (dec s i).1 := by
  unfold dec
  simp only [Nat.add_zero, List.getD_eq_getElem?_getD, List.getElem?_eq_getElem h, Option.getD_some, hc, if_false]
  split
  · split <;> simp_all
  · split
    · split
      · simp_all; omega
      · simp
    · split
      · split
        · simp_all; omega
        · simp
      · simp
theorem indexFunc_dig (s : Str) : ∀ (n i : Nat), n = s.length - i → i ≤ s.length → (s.take i).all isD = true →
    ∃ q, iter (strings_indexFunc_b1 s (fun x0 => value_digits_c1 x0) true) i = some q ∧ ((s.all isD = true ∧ q = Sum.inr ()) ∨ (s.all isD = false ∧ ∃ k : Nat, q = Sum.inl (k : Int)))
  | n, i, hn, hi, hall => by
    by_cases hlt : i < s.length
    · have e0 : decide (i < s.length) = true := by simp [hlt]
      have hbody : strings_indexFunc_b1 s (fun x0 => value_digits_c1 x0) true i = some (bif !(decide (48 ≤ (dec s i).1) && decide ((dec s i).1 ≤ 57)) then .inr (.inl (i : Int)) else .inl (i + (dec s i).2)) := by
        unfold strings_indexFunc_b1
        rw [e0]
        simp only [cond_true, dig_c1, Option.bind_some]
        cases (decide (48 ≤ (dec s i).1) && decide ((dec s i).1 ≤ 57)) <;> rfl
      by_cases hs : s[i].toNat < 128
      · rw [dec_small s i hlt hs] at hbody
        cases hd : isD s[i] with
        | true =>
          have hd' : (decide (48 ≤ s[i].toNat) && decide (s[i].toNat ≤ 57)) = true := hd
          simp only [hd', Bool.not_true, cond_false] at hbody
          cases n with
          | zero => omega
          | succ n =>
            obtain ⟨q, h1, h2⟩ := indexFunc_dig s n (i + 1) (by omega) (by omega) (by
              rw [List.take_add_one, get_some hlt, List.all_append, hall]; simp [hd])
            exact ⟨q, by rw [iter_inl hbody]; exact h1, h2⟩
        | false =>
          have hd' : (decide (48 ≤ s[i].toNat) && decide (s[i].toNat ≤ 57)) = false := hd
          simp only [hd', Bool.not_false, cond_true] at hbody
          exact ⟨_, iter_inr hbody, .inr ⟨by rw [List.all_eq_false]; exact ⟨s[i], by simp, by simp [hd]⟩, i, rfl⟩⟩
      · have hg := dec_great s i hlt hs
        have hd' : (decide (48 ≤ (dec s i).1) && decide ((dec s i).1 ≤ 57)) = false := by simp; omega
        simp only [hd', Bool.not_false, cond_true] at hbody
        exact ⟨_, iter_inr hbody, .inr ⟨by rw [List.all_eq_false]; exact ⟨s[i], by simp, by simp [isD]; omega⟩, i, rfl⟩⟩
    · have hbody : strings_indexFunc_b1 s (fun x0 => value_digits_c1 x0) true i = some (.inr (.inr ())) := by
        unfold strings_indexFunc_b1
        rw [show decide (i < s.length) = false by simp; omega]
        rfl
      exact ⟨_, iter_inr hbody, .inl ⟨by rw [← hall, List.take_of_length_le (by omega)], rfl⟩⟩
theorem digits_eq (s : Str) : value_digits s = some (s.all isD) := by
  unfold value_digits strings_IndexFunc strings_indexFunc
  obtain ⟨q, h1, h2⟩ := indexFunc_dig s s.length 0 (by omega) (by omega) rfl
  rw [h1]
  rcases h2 with ⟨h, rfl⟩ | ⟨h, k, rfl⟩
  · simp [h]
  · simp [h]
/-! ### Noughts left out -/
theorem trimRB_eq (s : Str) (c : UInt8) (h : Sh s) : strings_trimRightByte s c = some (trimR (fun x => x == c) s) := by
  unfold strings_trimRightByte
  rw [iter_trimR (fun x => x == c) (by rfl) (fun l a hs => ?_) _ _ rfl h]
  · rfl
  · unfold strings_trimRightByte_b1
    rw [at_last l a hs, sub_init l a hs, show decide (((l ++ [a]).length : Int) > 0) = true by simp]
    simp only [cond_true, Option.bind_some]
    rw [show (((a.toNat : Nat) : Int) == ((c.toNat : Nat) : Int)) = (a == c) by
      rw [Bool.eq_iff_iff, beq_iff_eq, beq_iff_eq]
      exact ⟨fun e => UInt8.toNat_inj.1 (by omega), fun e => by rw [e]⟩]
    cases a == c <;> rfl
theorem trimLB_eq (s : Str) (c : UInt8) : strings_trimLeftByte s c = some (s.dropWhile (fun x => x == c)) := by
  unfold strings_trimLeftByte
  rw [iter_dropWhile (fun x => x == c) (by rfl) (fun a l => ?_)]
  · rfl
  · unfold strings_trimLeftByte_b1
    rw [at_zero, sub_tail, show decide (((a :: l).length : Int) > 0) = true by simp]
    simp only [cond_true, Option.bind_some]
    rw [show (((a.toNat : Nat) : Int) == ((c.toNat : Nat) : Int)) = (a == c) by
      rw [Bool.eq_iff_iff, beq_iff_eq, beq_iff_eq]
      exact ⟨fun e => UInt8.toNat_inj.1 (by omega), fun e => by rw [e]⟩]
    cases a == c <;> rfl
theorem trimR_le {α : Type} (p : α → Bool) (l : List α) : (trimR p l).length ≤ l.length := by
  unfold trimR; have := trimL_le p l.reverse; simpa using this
theorem dropWhile_nil {α : Type} (p : α → Bool) : ∀ l : List α, l.dropWhile p = [] ↔ ∀ x ∈ l, p x = true
  | [] => by simp
  | a :: l => by
    rw [List.dropWhile_cons]
    cases h : p a with
    | true => simp only [if_true]; rw [dropWhile_nil p l]; simp [h]
    | false => simp [h]
theorem trimR_nil {α : Type} (p : α → Bool) (l : List α) : (trimR p l).dropWhile p = [] ↔ l.all p = true := by
  constructor
  · intro h
    have h1 : ∀ x ∈ trimR p l, p x = true := by
      rw [dropWhile_nil _ _] at h; exact h
    have h2 : trimR p l = [] := by
      unfold trimR at *
      generalize hr : l.reverse.dropWhile p = r at *
      cases r with
      | nil => rfl
      | cons a r =>
        have ha := h1 a (by simp)
        have := List.head?_dropWhile_not p l.reverse
        rw [hr] at this
        simp at this
        rw [ha] at this; cases this
    unfold trimR at h2
    have h3 : l.reverse.dropWhile p = [] := by simpa using h2
    rw [dropWhile_nil _ _] at h3
    rw [List.all_eq_true]
    exact fun x hx => h3 x (by simpa using hx)
  · intro h
    rw [List.all_eq_true] at h
    have : trimR p l = [] := by
      unfold trimR
      rw [(dropWhile_nil _ _).2 (fun x hx => h x (by simpa using hx))]; rfl
    rw [this]; rfl
theorem Trim0 (s : Str) (h : Sh s) : ∃ t, strings_Trim s [48] = some t ∧ (t == []) = s.all (fun x => x == 48) := by
  unfold strings_Trim
  cases s with
  | nil => exact ⟨[], rfl, rfl⟩
  | cons a r =>
    refine ⟨(trimR (fun x => x == 48) (a :: r)).dropWhile (fun x => x == 48), ?_, ?_⟩
    · rw [show ((a :: r : Str) == []) = false by simp]
      simp only [cond_false, Option.bind_some, show ((([48] : Str).length : Int) == 1) = true from rfl, cond_true, at_zero, show (([48] : Str) == []) = false from rfl, show decide ((((48 : UInt8).toNat : Nat) : Int) < 128) = true by decide]
      rw [trimRB_eq _ _ h]
      simp only [Option.bind_some]
      rw [trimLB_eq]; rfl
    · rw [Bool.eq_iff_iff, beq_iff_eq]; exact trimR_nil _ _
/-! ### The number -/
abbrev most : Int := 9007199254740992
def dv (c : UInt8) : Int := (c.toNat : Int) - 48
def val : Int → Str → Int
  | n, [] => n
  | n, c :: l => val (mn (n * 10 + dv c) (most + 1)) l
def noV : TValue := ⟨2, [], false, 0, true, []⟩
def zV : TValue := ⟨0, [], false, 0, false, []⟩
def numV (n : Int) : TValue := ⟨2, [], false, n, false, []⟩
def ofN (n : Int) : TValue × Int := if n < -most then (zV, 6) else if most < n then (zV, 6) else (numV n, 0)
theorem OfNumber_eq (n : Int) : value_OfNumber n = some (ofN n) := by
  unfold value_OfNumber ofN
  by_cases h1 : n < -most
  · rw [show decide (n < -9007199254740992) = true by simpa using h1, if_pos h1]; rfl
  · rw [show decide (n < -9007199254740992) = false by simpa using h1, if_neg h1]
    by_cases h2 : most < n
    · rw [show decide (n > 9007199254740992) = true by simpa using h2, if_pos h2]; rfl
    · rw [show decide (n > 9007199254740992) = false by simpa using h2, if_neg h2]; rfl
theorem dv_bd {c : UInt8} (h : isD c = true) : 0 ≤ dv c ∧ dv c ≤ 9 := by
  simp only [isD, Bool.and_eq_true, decide_eq_true_eq] at h
  unfold dv; omega
theorem sub48 {c : UInt8} (h : isD c = true) : (((c - 48).toNat : Nat) : Int) = dv c := by
  simp only [isD, Bool.and_eq_true, decide_eq_true_eq] at h
  unfold dv
  rw [UInt8.toNat_sub]
  simp
  omega
theorem val_loop (v3 : Str × Str × Bool) (hs : Sh v3.1) (hd : v3.1.all isD = true) : ∀ (k i : Nat) (n : Int), k = v3.1.length - i → i ≤ v3.1.length → 0 ≤ n → n ≤ most + 1 → iter (value_Read_b1 v3) (n, (i : Int)) = some (val n (v3.1.drop i))
  | k, i, n, hk, hi, h0, h1 => by
    have hs' : v3.1.length ≤ 1000000000000 := hs
    by_cases hlt : i < v3.1.length
    · have hdi : isD v3.1[i] = true := by rw [List.all_eq_true] at hd; exact hd _ (by simp)
      have hb := dv_bd hdi
      have hbody : value_Read_b1 v3 (n, (i : Int)) = some (.inl (mn (n * 10 + dv v3.1[i]) (most + 1), ((i + 1 : Nat) : Int))) := by
        unfold value_Read_b1
        rw [show decide ((i : Int) < (v3.1.length : Int)) = true by simp [hlt], at_nat, get_some hlt]
        simp only [cond_true, Option.bind_some]
        have hmost : most = 9007199254740992 := rfl
        rw [sub48 hdi, w64_of (n := n * 10) (by omega), w64_of (n := dv v3.1[i]) (by omega), w64_of (n := n * 10 + dv v3.1[i]) (by omega), w64_of (n := (i : Int) + 1) (by omega)]
        rfl
      cases k with
      | zero => omega
      | succ k =>
        have hm : 0 ≤ mn (n * 10 + dv v3.1[i]) (most + 1) ∧ mn (n * 10 + dv v3.1[i]) (most + 1) ≤ most + 1 := by unfold mn; split <;> omega
        rw [iter_inl hbody, val_loop v3 hs hd k (i + 1) _ (by omega) (by omega) hm.1 hm.2, List.drop_eq_getElem_cons hlt]
        rfl
    · have hbody : value_Read_b1 v3 (n, (i : Int)) = some (.inr n) := by
        unfold value_Read_b1
        rw [show decide ((i : Int) < (v3.1.length : Int)) = false by simp; omega]
        rfl
      rw [iter_inr hbody, List.drop_of_length_le (by omega)]
      rfl
theorem val_bd : ∀ (l : Str) (n : Int), l.all isD = true → 0 ≤ n → n ≤ most + 1 → 0 ≤ val n l ∧ val n l ≤ most + 1
  | [], n, _, h0, h1 => ⟨h0, h1⟩
  | c :: l, n, hd, h0, h1 => by
    simp only [List.all_cons, Bool.and_eq_true] at hd
    have hb := dv_bd hd.1
    have hm : 0 ≤ mn (n * 10 + dv c) (most + 1) ∧ mn (n * 10 + dv c) (most + 1) ≤ most + 1 := by unfold mn; split <;> omega
    exact val_bd l _ hd.2 hm.1 hm.2
/-- Ahead of the first point, and behind it. -/
def cutDot : Str → Str × Str
  | [] => ([], [])
  | c :: l => if c = 46 then ([], l) else (c :: (cutDot l).1, (cutDot l).2)
theorem cutDot_cases : ∀ d : Str, (46 ∉ d ∧ cutDot d = (d, [])) ∨ ∃ u v, d = u ++ 46 :: v ∧ 46 ∉ u ∧ cutDot d = (u, v)
  | [] => .inl ⟨by simp, rfl⟩
  | c :: l => by
    by_cases h : c = 46
    · subst h; exact .inr ⟨[], l, rfl, by simp, by simp [cutDot]⟩
    · rcases cutDot_cases l with ⟨h1, h2⟩ | ⟨u, v, h1, h2, h3⟩
      · exact .inl ⟨by simp [h1, Ne.symm h], by simp [cutDot, h, h2]⟩
      · exact .inr ⟨c :: u, v, by rw [h1]; rfl, by simp [h2, Ne.symm h], by simp [cutDot, h, h3]⟩
def readD (d : Str) (below : Bool) : TValue × Int :=
  if !((cutDot d).1.all isD) || !((cutDot d).2.all isD) || ((cutDot d).1 == [] && (cutDot d).2 == []) then (noV, 0)
  else if !((cutDot d).2.all (fun x => x == 48)) then (zV, 6)
  else ofN (if below then - val 0 (cutDot d).1 else val 0 (cutDot d).1)
def signed (t : Str) : Str × Bool := cut1 45 t
theorem trim_le (s : Str) : (trim s).length ≤ s.length := Nat.le_trans (trimR_le _ _) (trimL_le _ _)
theorem signed_le (t : Str) : (signed t).1.length ≤ t.length := by
  unfold signed cut1
  split
  · split <;> simp
  · simp
theorem Cut_eq (d : Str) (h : Sh d) : ∃ b, strings_Cut d [46] = some ((cutDot d).1, (cutDot d).2, b) := by
  rcases cutDot_cases d with ⟨h1, h2⟩ | ⟨u, v, h1, h2, h3⟩
  · exact ⟨false, by rw [Cut_none d 46 h1, h2]⟩
  · refine ⟨true, ?_⟩
    rw [h3, h1]
    rw [h1] at h
    exact Cut_some u v 46 h2 h
theorem cutDot_le (d : Str) : (cutDot d).1.length ≤ d.length ∧ (cutDot d).2.length ≤ d.length := by
  rcases cutDot_cases d with ⟨h1, h2⟩ | ⟨u, v, h1, h2, h3⟩
  · rw [h2]; simp
  · rw [h3, h1]; simp; omega
theorem Read_eq (s : Str) (h : Sh s) : value_Read s = some (readD (signed (trim s)).1 (signed (trim s)).2) := by
  unfold value_Read
  rw [Trim_eq s h]
  simp only [Option.bind_some]
  rw [CutPrefix_one]
  rw [show cut1 45 (trim s) = signed (trim s) from rfl]
  simp only [Option.bind_some]
  have hd : Sh (signed (trim s)).1 := Nat.le_trans (signed_le _) (Nat.le_trans (trim_le s) h)
  generalize (signed (trim s)).1 = d at hd
  generalize (signed (trim s)).2 = below
  obtain ⟨b, hc⟩ := Cut_eq d hd
  rw [hc]
  simp only [Option.bind_some]
  have hle := cutDot_le d
  have hd' : d.length ≤ 1000000000000 := hd
  unfold readD
  generalize hw : (cutDot d).1 = whole at *
  generalize hp : (cutDot d).2 = part at *
  have hsw : Sh whole := by show whole.length ≤ _; omega
  have hsp : Sh part := by show part.length ≤ _; omega
  rw [digits_eq, digits_eq]
  simp only [Option.bind_some]
  cases h1 : whole.all isD with
  | false => simp [value_None, noV]
  | true =>
    cases h2 : part.all isD with
    | false => simp [value_None, noV]
    | true =>
      simp only [Bool.not_true, cond_false]
      cases h3 : (whole == []) && (part == []) with
      | true =>
        simp only [Bool.and_eq_true] at h3
        simp [h3.1, h3.2, value_None, noV]
      | false =>
        have h3' : (bif whole == [] then some (part == []) else some false) = some false := by
          cases hw' : whole == [] with
          | true => rw [hw'] at h3; simp at h3; simp [h3]
          | false => rfl
        rw [h3']
        simp only [Option.bind_some, cond_false, Bool.or_false]
        obtain ⟨t, ht, htn⟩ := Trim0 part hsp
        rw [ht]
        simp only [Option.bind_some, htn]
        cases h4 : part.all (fun x => x == 48) with
        | false => simp [zV]
        | true =>
          simp only [Bool.not_true, cond_false, Bool.false_eq_true, if_false]
          have hl := val_loop (whole, part, b) hsw h1 whole.length 0 0 (by simp) (by simp) (by omega) (by decide)
          rw [show ((0 : Nat) : Int) = 0 from rfl] at hl
          rw [hl]
          simp only [Option.bind_some, List.drop_zero]
          have hb := val_bd whole 0 h1 (by omega) (by decide)
          have hmost : most = 9007199254740992 := rfl
          cases below with
          | true =>
            simp only [cond_true, if_true]
            rw [w64_of (by omega), show (0 : Int) - val 0 whole = - val 0 whole by omega, OfNumber_eq]; rfl
          | false =>
            simp only [cond_false, Bool.false_eq_true, if_false]
            rw [OfNumber_eq]; rfl
end G
