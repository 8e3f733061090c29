/-
  THE PLAIN WORDS, MORE: sorted by a comparison; places, small sums. No program, no memory. Conditions: none.
-/
import Derived.Test.YtipbfnjpfmmkfaaGreatDoorAbsPure
set_option linter.unusedVariables false
namespace W

variable {α : Type}
/-- A comparison that always answers, and parts whatever two are not one. -/
structure Tot (cmp : α → α → Option Int) (cf : α → α → Int) : Prop where
  val : ∀ x y, cmp x y = some (cf x y)
  irrefl : ∀ x, ¬ cf x x < 0
  trans : ∀ x y z, cf x y < 0 → cf y z < 0 → cf x z < 0
  ntrans : ∀ x y z, ¬ cf x y < 0 → ¬ cf y z < 0 → ¬ cf x z < 0
  anti : ∀ x y, ¬ cf x y < 0 → ¬ cf y x < 0 → x = y
theorem put_of {l : List α} {i : Nat} (h : i < l.length) (x : α) : put l (i : Int) x = some (l.set i x) := by
  unfold put
  rw [show decide (0 ≤ (i : Int) ∧ (i : Int) < (l.length : Int)) = true by simp; omega]; rfl
theorem w64_add1 {j : Nat} (h2 : j < 9223372036854775807) : w64 ((j : Int) + 1) = ((j + 1 : Nat) : Int) := by rw [w64_of (by omega)]; omega
theorem mk_of {sz : Nat} {n : Int} (z : α) (h : 0 ≤ n ∧ n * sz ≤ 281474976710656 ∧ n ≤ 9223372036854775807) : mk sz n z = some (List.replicate n.toNat z) := by simp [mk, h]
end W
