/-
  THE CALL LAWS' OWN TEST: awake() answers true. No program, no memory. Conditions: none.
-/
import Derived.Test.YtipbfnjpfmmkfaaGreatDoorYEval
import Derived.Shelf.Strings.Replace
import Derived.WalkKit
namespace G
open W Go
theorem awake_e_eq : apostillelaw17_awake_e = some true := by kernel_rfl
theorem awake_eq : apostillelaw17_awake = some true := apostillelaw17_awake_le _ awake_e_eq
end G
