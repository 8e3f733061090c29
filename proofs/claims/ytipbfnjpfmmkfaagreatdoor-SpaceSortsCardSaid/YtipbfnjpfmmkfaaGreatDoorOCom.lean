/-
  WHAT THE LAWS' OWN TESTS ANSWER, plain: they parse one small document; the kernel reckons it. No program, no memory. Conditions: none.
-/
import Derived.Test.YtipbfnjpfmmkfaaGreatDoorOEval
import Derived.Test.YtipbfnjpfmmkfaaGreatDoorAbsM2
import Derived.WalkKit
import Derived.KernelRfl
set_option maxRecDepth 20000
set_option linter.unusedVariables false
namespace G
open W
theorem awake09_e : apostillelaw09_awake_e = some true := by kernel_rfl
theorem awake09_eq : apostillelaw09_awake = some true := apostillelaw09_awake_le _ awake09_e
end G
