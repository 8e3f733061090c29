/- slices.Insert at the element types of this program: WALKED, told to the cell. Conditions: none. -/
import Derived.Test.YtojbjdcflgeibaaGreatDoorProg
import Derived.Test.YtojbjdcflgeibaaGreatDoorAbsM3
import Derived.Shelf.Spec.SlicesInsertGrow
set_option linter.unusedVariables false
set_option linter.unusedSimpArgs false
namespace Go.Proofs
open Go Go.Shelf Go.RowKit Go.Lib
section
set_option maxHeartbeats 4000000
set_option maxRecDepth 100000
end
section
set_option maxHeartbeats 4000000
set_option maxRecDepth 100000
end
end Go.Proofs
