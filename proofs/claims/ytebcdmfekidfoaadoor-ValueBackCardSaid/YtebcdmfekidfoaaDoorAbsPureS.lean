/-
  THE PLAIN WORDS, MORE: sorted by a comparison; places, small sums. No program, no memory. Conditions: none.
-/
import Derived.Test.YtebcdmfekidfoaaDoorAbsPure
set_option linter.unusedVariables false
namespace W

variable {α : Type}
/-- A comparison that always answers, and parts whatever two are not one. -/
structure Tot (cmp : α → α → Option Int) (cf : α → α → Int) : Prop where
  val : ∀ x y, cmp x y = some (cf x y)
  irrefl : ∀ x, ¬ cf x x < 0
  trans : ∀ x y z, cf x y < 0 → cf y z < 0 → cf x z < 0
  ntrans : ∀ x y z, ¬ cf x y < 0 → ¬ cf y z < 0 → ¬ cf x z < 0
  anti : ∀ x y, ¬ cf x y < 0 → ¬ cf y x < 0 → x = y
/-- Sorted by it. -/
noncomputable def srt (l : List α) (cmp : α → α → Option Int) : Option (List α) :=
  open Classical in if h : (∃ cf, Tot cmp cf) ∧ l.length < 4611686018427387904 then some (l.mergeSort fun x y => !(decide (h.1.choose y x < 0))) else none
theorem srt_some {l r : List α} {cmp : α → α → Option Int} (h : srt l cmp = some r) : ∃ cf, Tot cmp cf ∧ l.length < 4611686018427387904 ∧ r = l.mergeSort fun x y => !(decide (cf y x < 0)) := by
  unfold srt at h
  split at h
  · rename_i e
    cases h
    exact ⟨e.1.choose, e.1.choose_spec, e.2, rfl⟩
  · cases h
theorem srt_of {l : List α} {cmp : α → α → Option Int} {cf : α → α → Int} (h : Tot cmp cf) (hl : l.length < 4611686018427387904) : srt l cmp = some (l.mergeSort fun x y => !(decide (cf y x < 0))) := by
  have e : (∃ cf, Tot cmp cf) ∧ l.length < 4611686018427387904 := ⟨⟨cf, h⟩, hl⟩
  unfold srt
  rw [dif_pos e]
  have : e.1.choose = cf := by
    funext x y
    have h1 := e.1.choose_spec.val x y
    rw [h.val] at h1
    exact (Option.some.inj h1).symm
  rw [this]
/-- Sorted: none is ahead of one that is less; nothing else is there. -/
theorem srt_sorted {l : List α} {cmp : α → α → Option Int} {cf : α → α → Int} (h : Tot cmp cf) : (l.mergeSort fun x y => !(decide (cf y x < 0))).Pairwise fun x y => ¬ cf y x < 0 := by
  have := List.pairwise_mergeSort (le := fun x y => !(decide (cf y x < 0))) (fun a b c h1 h2 => by
    simp only [Bool.not_eq_true', decide_eq_false_iff_not] at h1 h2 ⊢
    exact h.ntrans _ _ _ h2 h1) (fun a b => by
    simp only [Bool.or_eq_true, Bool.not_eq_true', decide_eq_false_iff_not]
    by_cases h1 : cf b a < 0
    · exact .inr fun h2 => h.irrefl _ (h.trans _ _ _ h1 h2)
    · exact .inl h1) l
  exact this.imp fun hh => by simpa using hh
theorem at_of {l : List α} {i : Nat} (h : i < l.length) : at' l (i : Int) = some l[i] := by rw [at'_nat, List.getElem?_eq_getElem h]
theorem put_of {l : List α} {i : Nat} (h : i < l.length) (x : α) : put l (i : Int) x = some (l.set i x) := by
  unfold put
  rw [show decide (0 ≤ (i : Int) ∧ (i : Int) < (l.length : Int)) = true by simp; omega]; rfl
theorem w64_nat {n : Nat} (h : n < 9223372036854775808) : w64 (n : Int) = (n : Int) := w64_of (by omega)
theorem w64_sub {j : Nat} (h : 0 < j) (h2 : j < 9223372036854775808) : w64 ((j : Int) - 1) = ((j - 1 : Nat) : Int) := by rw [w64_of (by omega)]; omega
theorem w64_add1 {j : Nat} (h2 : j < 9223372036854775807) : w64 ((j : Int) + 1) = ((j + 1 : Nat) : Int) := by rw [w64_of (by omega)]; omega
theorem atp_of {l : List α} {o n i : Nat} (h : i < n) (h2 : o + i < l.length) : atp l o n (i : Int) = some l[o + i] := by
  unfold atp
  rw [show decide (0 ≤ (i : Int) ∧ (i : Int) < (n : Int)) = true by simp; omega]
  simp [h2]
theorem rng_of {n i j : Int} (h : 0 ≤ i ∧ i ≤ j ∧ j ≤ n) : rng n i j = some () := by simp [rng, h]
theorem prt_of {l : List α} {o n : Nat} (h : o + n ≤ l.length) : prt l o n = some ((l.drop o).take n) := by simp [prt, h]
theorem clr_of {l : List α} {o n : Nat} (z : α) (h : o + n ≤ l.length) : clr l o n z = some (l.take o ++ List.replicate n z ++ l.drop (o + n)) := by simp [clr, h]
theorem eqn_of {n m : Nat} (h : n = m) : eqn n m = some () := by subst h; simp [eqn]
/-- So many elements, more than none, all z. -/
def mkp (sz : Nat) (n : Int) (z : α) : Option (List α) := bif decide (0 < n) then mk sz n z else none
theorem mkp_some {sz : Nat} {n : Int} {z : α} {m : List α} (h : mkp sz n z = some m) : 0 < n ∧ 0 ≤ n ∧ n * sz ≤ 281474976710656 ∧ n ≤ 9223372036854775807 ∧ m = List.replicate n.toNat z := by
  unfold mkp at h
  cases e : decide (0 < n) with
  | false => rw [e] at h; cases h
  | true => rw [e] at h; exact ⟨of_decide_eq_true e, mk_some h⟩
theorem mk_of {sz : Nat} {n : Int} (z : α) (h : 0 ≤ n ∧ n * sz ≤ 281474976710656 ∧ n ≤ 9223372036854775807) : mk sz n z = some (List.replicate n.toNat z) := by simp [mk, h]
theorem mkp_of {sz : Nat} {n : Int} (z : α) (h : 0 < n ∧ n * sz ≤ 281474976710656 ∧ n ≤ 9223372036854775807) : mkp sz n z = some (List.replicate n.toNat z) := by
  unfold mkp; rw [decide_eq_true h.1]; exact mk_of z ⟨Int.le_of_lt h.1, h.2⟩
end W
