/-
  APPEND OF SO MANY ZERO VALUES TO A nil SLICE, as an operation over abstract states. Generic over the program. Conditions: more than none; room for them.
-/
import Derived.Test.YtipbfnjpfmmkfaaGreatDoorAbsAuto
import Derived.Test.YtipbfnjpfmmkfaaGreatDoorAbsPureS
set_option linter.unusedVariables false
set_option linter.unusedSimpArgs false
set_option linter.unusedSectionVars false
namespace Go.Abs
open Go Go.RowKit Go.Proofs W
variable [GTab]
theorem below_drew (w : World) : BelowD w w.drew := ⟨⟨rfl, rfl, rfl, Nat.le_refl _, fun _ _ => rfl⟩, Nat.le_succ _⟩
section
variable {c : Ctx} {s : St} {d : Option Tmp} {ty : TypeId} {pos : String} {af : Array Edge} {g : Option (Nat × Bool)}
end
section
variable {c : Ctx} {s : St} {d : Option Tmp} {ty : TypeId} {pos : String} {af : Array Edge} {g : Option (Nat × Bool)}
end
section
variable {c : Ctx} {Q : Exit → Act → World → Prop} {T : List (Nat × AV)} {H : List (Nat × AObj)} {M : List Nat} {ops : Array Oper} {rest : List Oper} {d : Tmp} {ty : TypeId} {pos : String} {af : Array Edge}
/-- The state said anew. -/
theorem l_to {N : List Nat} (σ : List (Nat × Nat)) (S : St) (hB : ∀ b p, c.β0 b = some p → mem b N = true) (h : RunL c ops Q rest S)
    (hσ : okS σ = true := by exact rfl) (hH : pickS σ σ H = some S.H := by exact rfl) (hT : Sub S.T (mapT (reL σ) T) := by (repeat' first | exact True.intro | exact rfl | exact get_fn rfl (And.left (by assumption)) | apply And.intro)) (hM : okM σ M S.M N = true := by exact rfl) :
    RunL c ops Q rest ⟨T, H, M⟩ := fun a w hs => h a w (hs.to σ hσ hH hT hB hM)
end
end Go.Abs
