/-
  THE PLAIN WORDS, MORE: sorted by a comparison; places, small sums. No program, no memory. Conditions: none.
-/
import Derived.Test.YtipbfnjpfmmkfaaGreatDoorAbsPure
set_option linter.unusedVariables false
namespace W

variable {α : Type}
/-- A comparison that always answers, and parts whatever two are not one. -/
structure Tot (cmp : α → α → Option Int) (cf : α → α → Int) : Prop where
  val : ∀ x y, cmp x y = some (cf x y)
  irrefl : ∀ x, ¬ cf x x < 0
  trans : ∀ x y z, cf x y < 0 → cf y z < 0 → cf x z < 0
  ntrans : ∀ x y z, ¬ cf x y < 0 → ¬ cf y z < 0 → ¬ cf x z < 0
  anti : ∀ x y, ¬ cf x y < 0 → ¬ cf y x < 0 → x = y
end W
