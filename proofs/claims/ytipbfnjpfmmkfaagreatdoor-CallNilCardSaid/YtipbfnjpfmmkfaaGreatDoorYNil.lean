/-
  CallNil, plain: it answers true for every name. No program, no memory. Conditions: none.
-/
import Derived.Test.YtipbfnjpfmmkfaaGreatDoorYAwake
namespace G
open W
theorem nil_do (name : Str) : call_Do none (TPlace.mk (TPoint.mk 0 0 0) 0 0) name [] = some (TValue.mk 0 [] false 0 false [], 1) := by
  unfold call_Do
  rfl
theorem same0 : apostilleref16_Same (TValue.mk 0 [] false 0 false []) (TValue.mk 0 [] false 0 false []) = some true := apostilleref16_Same_le _ _ _ (by kernel_rfl)
theorem CallNil_eq (name : Str) : apostillelaw17_CallNil name = some true := by
  unfold apostillelaw17_CallNil
  rw [awake_eq, nil_do]
  simp only [Option.bind_some, Bool.not_true, cond_false]
  cases decide ((name.length : Int) > 100) with
  | true => rfl
  | false =>
    show (apostilleref16_Same _ _).bind (fun v5 => some v5) = some true
    rw [same0]; rfl
end G
