/-
  PLAIN LAWS OF SETS OF POINTS, MORE: what is left of equal ones side by side, what is found in the middle, what is deleted; the program's set. No program, no memory. Conditions: fewer than 2^40 points.
-/
import Derived.Test.YtebcdmfekidfoaaDoorVNodes2
set_option linter.unusedVariables false
set_option linter.unusedSimpArgs false
namespace G
open W
/-- None is ahead of one that is less. -/
def Le (l : List TPoint) : Prop := l.Pairwise fun a b => plt b a = false
theorem compact_step {s row : List TPoint} {k j i : Nat} {sl : Nat} (hsl : sl = s.length) (hs : s.length < 4611686018427387904) (hj : 1 ≤ j) (hlen : row.length = s.length) (hkj : k + j < s.length) (hi : i < row.length) :
    slices_Compact_Point_b2 s (k : Int) ((i : Int), (j : Int), row) = (if row[k + j]'(by omega) = row[k + j - 1]'(by omega) then some (.inl ((i : Int), ((j + 1 : Nat) : Int), row)) else some (.inl (((i + 1 : Nat) : Int), ((j + 1 : Nat) : Int), row.set i (row[k + j]'(by omega))))) := by
  unfold slices_Compact_Point_b2
  simp only [Int.toNat_natCast]
  rw [show decide ((j : Int) < ((s.length - k : Nat) : Int)) = true by simp; omega]
  simp only [cond_true]
  rw [atp_of (by omega) (by omega), w64_sub (by omega) (by omega), atp_of (by omega) (by omega)]
  simp only [Option.bind_some]
  have e : k + (j - 1) = k + j - 1 := by omega
  simp only [e]
  rw [w64_add1 (j := i) (by omega), w64_add1 (j := j) (by omega), eqb_dec]
  by_cases h : row[k + j]'(by omega) = row[k + j - 1]'(by omega)
  · simp [h]
  · rw [if_neg h, show decide (row[k + j]'(by omega) = row[k + j - 1]'(by omega)) = false by simpa using h]
    simp only [Bool.not_false, cond_true, Option.bind_some]
    rw [at_of hi]
    simp only [Option.bind_some]
    rw [put_of hi]
    rfl
structure CI (s : List TPoint) (k i j : Nat) (row : List TPoint) : Prop where
  hj : 1 ≤ j
  len : row.length = s.length
  kj : k + j ≤ s.length
  pos : 1 ≤ i
  lt : i + 1 ≤ k + j
  rest : ∀ m, k + j - 1 ≤ m → row[m]? = s[m]?
  last : row[i - 1]? = s[k + j - 1]?
  asc : Asc (row.take i)
  mem : ∀ p, p ∈ row.take i ↔ p ∈ s.take (k + j)
theorem compact_loop {s : List TPoint} (hs : s.length < 4611686018427387904) (hL : Le s) {k : Nat} : ∀ (d i j : Nat) (row : List TPoint), d = s.length - (k + j) → CI s k i j row →
    ∃ (n : Nat) (r : List TPoint), iter (slices_Compact_Point_b2 s (k : Int)) ((i : Int), (j : Int), row) = some ((n : Int), r) ∧ n ≤ r.length ∧ r.length = s.length ∧ Asc (r.take n) ∧ ∀ p, p ∈ r.take n ↔ p ∈ s
  | d, i, j, row, hd, hI => by
    have hj := hI.hj; have hlen := hI.len; have hkj := hI.kj; have hpos := hI.pos; have hlt := hI.lt
    by_cases h : k + j < s.length
    · match d, hd with
      | 0, hd => omega
      | d + 1, hd =>
      have hir : i < row.length := by omega
      have hst := compact_step rfl hs hj hlen h hir
      have e1 : row[k + j]'(by omega) = s[k + j] := by
        have := hI.rest (k + j) (by omega)
        rw [List.getElem?_eq_getElem (by omega), List.getElem?_eq_getElem h] at this
        exact Option.some.inj this
      have e2 : row[k + j - 1]'(by omega) = s[k + j - 1]'(by omega) := by
        have := hI.rest (k + j - 1) (by omega)
        rw [List.getElem?_eq_getElem (by omega), List.getElem?_eq_getElem (by omega)] at this
        exact Option.some.inj this
      rw [e1, e2] at hst
      by_cases he : s[k + j] = s[k + j - 1]'(by omega)
      · rw [if_pos he] at hst
        rw [iter_inl hst]
        refine compact_loop hs hL d i (j + 1) row (by omega) ⟨by omega, hlen, by omega, hpos, by omega, fun m hm => hI.rest m (by omega), ?_, hI.asc, fun p => ?_⟩
        · rw [hI.last, show k + (j + 1) - 1 = k + j by omega, List.getElem?_eq_getElem h, List.getElem?_eq_getElem (by omega), he]
        · rw [hI.mem, show k + (j + 1) = k + j + 1 by omega, List.take_succ_eq_append_getElem h, List.mem_append, List.mem_singleton]
          refine ⟨.inl, fun hh => hh.elim id fun e => ?_⟩
          rw [e, he]
          exact List.mem_take_iff_getElem.2 ⟨k + j - 1, by omega, rfl⟩
      · rw [if_neg he] at hst
        rw [iter_inl hst]
        have hlt2 : plt (s[k + j - 1]'(by omega)) s[k + j] = true := by
          have := (List.pairwise_iff_getElem.1 hL) (k + j - 1) (k + j) (by omega) h (by omega)
          cases hx : plt (s[k + j - 1]'(by omega)) s[k + j] with
          | true => rfl
          | false => exact absurd (plt_total this hx) he
        have htk : (row.set i s[k + j]).take (i + 1) = row.take i ++ [s[k + j]] := by
          rw [List.take_succ_eq_append_getElem (by simpa using hir)]
          simp [List.take_set_of_le]
        refine compact_loop hs hL d (i + 1) (j + 1) _ (by omega) ⟨by omega, by simpa using hlen, by omega, by omega, by omega, fun m hm => ?_, ?_, ?_, fun p => ?_⟩
        · rw [List.getElem?_set_ne (by omega)]; exact hI.rest m (by omega)
        · rw [show k + (j + 1) - 1 = k + j by omega, show i + 1 - 1 = i by omega, List.getElem?_set_self hir, List.getElem?_eq_getElem h]
        · rw [htk]
          refine asc_push hI.asc fun y hy => ?_
          have h3 : (row.take i).getLast? = row[i - 1]? := by
            have : i = i - 1 + 1 := by omega
            rw [this, take_last (by omega : i - 1 < row.length), List.getElem?_eq_getElem (by omega)]
            simp
          rw [h3, hI.last, List.getElem?_eq_getElem (by omega)] at hy
          cases hy; exact hlt2
        · rw [htk, List.mem_append, hI.mem, show k + (j + 1) = k + j + 1 by omega, List.take_succ_eq_append_getElem h, List.mem_append]
    · have hb : slices_Compact_Point_b2 s (k : Int) ((i : Int), (j : Int), row) = some (.inr ((i : Int), row)) := by
        unfold slices_Compact_Point_b2
        simp only [Int.toNat_natCast]
        rw [show decide ((j : Int) < ((s.length - k : Nat) : Int)) = false by simp; omega]; rfl
      refine ⟨i, row, iter_inr hb, by omega, hlen, hI.asc, fun p => ?_⟩
      rw [hI.mem, List.take_of_length_le (by omega)]
theorem compact_out {s : List TPoint} (hs : s.length < 4611686018427387904) (hL : Le s) : ∀ (d k : Nat), d = s.length - k → 1 ≤ k → k ≤ s.length → Asc (s.take k) →
    ∃ q, iter (slices_Compact_Point_b1 s) (k : Int) = some q ∧ IsSet s (Sum.elim id (fun _ => s) q)
  | d, k, hd, hk1, hk0, hA => by
    by_cases hk : k < s.length
    · have hk' : k - 1 < s.length := by omega
      by_cases he : s[k] = s[k - 1]
      · have hI : CI s k k 1 s := ⟨Nat.le_refl _, rfl, by omega, hk1, by omega, fun m _ => rfl, by rw [show k + 1 - 1 = k by omega, List.getElem?_eq_getElem hk, List.getElem?_eq_getElem hk', he], hA, fun p => by
          rw [List.take_succ_eq_append_getElem hk, List.mem_append, List.mem_singleton]
          refine ⟨.inl, fun hh => hh.elim id fun e => ?_⟩
          rw [e, he]
          exact List.mem_take_iff_getElem.2 ⟨k - 1, by omega, rfl⟩⟩
        obtain ⟨n, r, h1, h2, h3, h4, h5⟩ := compact_loop hs hL (s.length - (k + 1)) k 1 s rfl hI
        refine ⟨.inl (r.take n), iter_inr ?_, ⟨h4, h5⟩⟩
        unfold slices_Compact_Point_b1
        rw [show decide ((k : Int) < (s.length : Int)) = true by simp; omega]
        simp only [cond_true]
        rw [w64_sub (by omega) (by omega), at_of hk, at_of hk']
        simp only [Option.bind_some]
        rw [he, eqb_self]
        simp only [cond_true]
        rw [rng_of (by omega)]
        simp only [Option.bind_some]
        rw [show (1 : Int) = ((1 : Nat) : Int) from rfl, h1]
        simp only [Option.bind_some]
        rw [rng_of (by omega)]
        simp only [Option.bind_some, Int.toNat_natCast]
        rw [clr_of _ (by omega)]
        simp only [Option.bind_some]
        rw [rng_of (by omega)]
        simp only [Option.bind_some]
        rw [prt_of (by simp; omega)]
        simp only [Option.bind_some, List.drop_zero]
        congr 3
        rw [List.append_assoc, List.take_append_of_le_length (by simp; omega), List.take_take]
        simp
      · have hlt2 : plt s[k - 1] s[k] = true := by
          have := (List.pairwise_iff_getElem.1 hL) (k - 1) k hk' hk (by omega)
          cases hx : plt s[k - 1] s[k] with
          | true => rfl
          | false => exact absurd (plt_total this hx) he
        match d, hd with
        | 0, hd => omega
        | d + 1, hd =>
        have hb : slices_Compact_Point_b1 s (k : Int) = some (.inl ((k + 1 : Nat) : Int)) := by
          unfold slices_Compact_Point_b1
          rw [show decide ((k : Int) < (s.length : Int)) = true by simp; omega]
          simp only [cond_true]
          rw [w64_sub (by omega) (by omega), at_of hk, at_of hk']
          simp only [Option.bind_some]
          rw [eqb_dec, show decide (s[k] = s[k - 1]) = false by simpa using he]
          simp only [cond_false]
          rw [w64_add1 (by omega)]
        rw [iter_inl hb]
        refine compact_out hs hL d (k + 1) (by omega) (by omega) (by omega) ?_
        rw [List.take_succ_eq_append_getElem hk]
        refine asc_push hA fun y hy => ?_
        have : k = k - 1 + 1 := by omega
        rw [this, take_last hk'] at hy; cases hy; exact hlt2
    · have hb : slices_Compact_Point_b1 s (k : Int) = some (.inr (Sum.inr ())) := by
        unfold slices_Compact_Point_b1
        rw [show decide ((k : Int) < (s.length : Int)) = false by simp; omega]; rfl
      refine ⟨_, iter_inr hb, ?_⟩
      rw [List.take_of_length_le (by omega)] at hA
      exact ⟨hA, fun p => Iff.rfl⟩
theorem compact_eq {s : List TPoint} (hs : s.length < 4611686018427387904) (hL : Le s) : ∃ r, slices_Compact_Point s = some r ∧ IsSet s r := by
  unfold slices_Compact_Point
  by_cases h : s.length < 2
  · rw [show decide ((s.length : Int) < 2) = true by simp; omega]
    refine ⟨s, rfl, ?_, fun p => Iff.rfl⟩
    match s, h with
    | [], _ => exact List.Pairwise.nil
    | [a], _ => exact List.pairwise_singleton _ _
    | a :: b :: l, h => simp at h; omega
  · rw [show decide ((s.length : Int) < 2) = false by simp; omega]
    simp only [cond_false]
    have hA : Asc (s.take 1) := by
      cases s with
      | nil => exact List.Pairwise.nil
      | cons a l => simp [Asc]
    obtain ⟨q, h1, h2⟩ := compact_out hs hL (s.length - 1) 1 rfl (Nat.le_refl _) (by omega) hA
    rw [show (1 : Int) = ((1 : Nat) : Int) from rfl, h1]
    cases q with
    | inl q => exact ⟨q, rfl, h2⟩
    | inr q => exact ⟨s, rfl, h2⟩
theorem of_eq (l : List TPoint) (hs : l.length < 1099511627776) : ∃ r, nodes_Of l = some r ∧ IsSet l r := by
  unfold nodes_Of slices_Clone_Point
  rw [app_of (by simp; omega)]
  simp only [Option.bind_some, List.nil_append]
  unfold slices_SortFunc_Point
  rw [srt_of pcmp_tot (by omega)]
  simp only [Option.bind_some]
  have hp := List.mergeSort_perm l fun x y => !(decide (pcmp y x < 0))
  have hso := srt_sorted (l := l) pcmp_tot
  generalize (l.mergeSort fun x y => !(decide (pcmp y x < 0))) = s at hp hso
  have hlen := hp.length_eq
  rw [eqn_of hlen]
  simp only [Option.bind_some]
  have hL : Le s := hso.imp fun {a b} hh => by
    cases hx : plt b a with
    | false => rfl
    | true => exact absurd ((pcmp_lt b a).2 hx) hh
  obtain ⟨r, h1, h2⟩ := compact_eq (by omega) hL
  rw [h1]
  exact ⟨r, rfl, h2.asc, fun p => by rw [h2.mem, hp.mem_iff]⟩
/-! what is found in the middle -/
/-! what is deleted -/
end G
