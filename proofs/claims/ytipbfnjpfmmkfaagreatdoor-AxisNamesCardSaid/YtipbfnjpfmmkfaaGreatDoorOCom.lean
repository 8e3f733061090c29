/-
  WHAT THE LAWS' OWN TESTS ANSWER, plain: they parse one small document; the kernel reckons it. No program, no memory. Conditions: none.
-/
import Derived.Test.YtipbfnjpfmmkfaaGreatDoorOEval
import Derived.Test.YtipbfnjpfmmkfaaGreatDoorAbsM2
import Derived.WalkKit
import Derived.KernelRfl
set_option maxRecDepth 20000
set_option linter.unusedVariables false
namespace G
open W
theorem awake13_e : apostillelaw13_awake_e = some true := by kernel_rfl
theorem awake13_eq : apostillelaw13_awake = some true := apostillelaw13_awake_le _ awake13_e
end G
