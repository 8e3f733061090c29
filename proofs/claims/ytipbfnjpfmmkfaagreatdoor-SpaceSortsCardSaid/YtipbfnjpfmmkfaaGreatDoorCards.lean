/-
  DERIVED. GIVEN WITH THE SEED: THE CARDS: each row of YtipbfnjpfmmkfaaGreatDoorRows.lean that lists a variable, with what it lists TIED to the program's text (the seventh form; the later family's looks); each row that meets fmt, with fmt's text TOLD by the authors' own Lean function (tested against real Go, not proved from fmt's source: count such statements apart). THE CARD IS WHAT COUNTS. Prove the row's statement (the work); the ties are given (YtipbfnjpfmmkfaaGreatDoorTie.lean); close each card by the builder's one call (the guide's Derived/Test/ToyasCard.lean, 'card_holds'). Laid BY PROGRAM, IN A SANDBOX (cutbox-door.mjs). By AI agents, Wed Nov 11 2026. No macro, syntax, notation, axiom, sorry.
-/
import Derived.Test.YtipbfnjpfmmkfaaGreatDoorRows
import GoSem.ClaimSeven
namespace Go.Proofs.YtipbfnjpfmmkfaaGreatDoor
namespace Rows

/-- THE TIED CARD OF 'apostillelaw09.SpaceSorts'. -/
def spaceSortsCard : Claim7 := { stood := { row := spaceSortsRow, standIns := [], harness := (true, "56b6cdbb6ece0af63ee0992484941b973b8c59ec90f57df0bfc218d7fc1921a6"), looks := true }, kinds := [], alts := [], laidByText := true, laidKinds := [.data, .pinned], laidTests := true, laidLooks := .later }
def SpaceSortsCardSaid : Prop := Claim7.holds Tryz.pinned (.plain (OpenSpec.ofChange spaceSortsSpec)) spaceSortsCard

/-- THE TIED CARD OF 'apostillelaw10.PointOrders'. -/
def pointOrdersCard : Claim7 := { stood := { row := pointOrdersRow, standIns := [], harness := (true, "56b6cdbb6ece0af63ee0992484941b973b8c59ec90f57df0bfc218d7fc1921a6"), looks := true }, kinds := [], alts := [], laidByText := true, laidKinds := [.data, .pinned], laidTests := true, laidLooks := .later }
def PointOrdersCardSaid : Prop := Claim7.holds Tryz.pinned (.plain (OpenSpec.ofChange pointOrdersSpec)) pointOrdersCard

/-- THE TIED CARD OF 'apostillelaw13.AxisNames'. -/
def axisNamesCard : Claim7 := { stood := { row := axisNamesRow, standIns := [], harness := (true, "56b6cdbb6ece0af63ee0992484941b973b8c59ec90f57df0bfc218d7fc1921a6"), looks := true }, kinds := [], alts := [], laidByText := true, laidKinds := [.data, .pinned], laidTests := true, laidLooks := .later }
def AxisNamesCardSaid : Prop := Claim7.holds Tryz.pinned (.plain (OpenSpec.ofChange axisNamesSpec)) axisNamesCard

/-- THE TIED CARD OF 'apostillelaw17.CallCuts'. -/
def callCutsCard : Claim7 := { stood := { row := callCutsRow, standIns := [], harness := (true, "56b6cdbb6ece0af63ee0992484941b973b8c59ec90f57df0bfc218d7fc1921a6"), looks := true }, kinds := [], alts := [], laidByText := true, laidKinds := [.data, .data, .data, .data, .pinned], laidTests := true, laidLooks := .later }
def CallCutsCardSaid : Prop := Claim7.holds Tryz.pinned (.plain (OpenSpec.ofChange callCutsSpec)) callCutsCard

/-- THE TIED CARD OF 'apostillelaw17.CallNil'. -/
def callNilCard : Claim7 := { stood := { row := callNilRow, standIns := [], harness := (true, "56b6cdbb6ece0af63ee0992484941b973b8c59ec90f57df0bfc218d7fc1921a6"), looks := true }, kinds := [], alts := [], laidByText := true, laidKinds := [.data, .data, .data, .data, .pinned], laidTests := true, laidLooks := .later }
def CallNilCardSaid : Prop := Claim7.holds Tryz.pinned (.plain (OpenSpec.ofChange callNilSpec)) callNilCard

/-- THE TIED CARD OF 'apostillelaw17.CallTexts'. -/
def callTextsCard : Claim7 := { stood := { row := callTextsRow, standIns := [], harness := (true, "56b6cdbb6ece0af63ee0992484941b973b8c59ec90f57df0bfc218d7fc1921a6"), looks := true }, kinds := [], alts := [], laidByText := true, laidKinds := [.data, .data, .data, .data, .pinned], laidTests := true, laidLooks := .later }
def CallTextsCardSaid : Prop := Claim7.holds Tryz.pinned (.plain (OpenSpec.ofChange callTextsSpec)) callTextsCard

/-- THE TIED CARD OF 'apostillelaw17.CallTrims'. -/
def callTrimsCard : Claim7 := { stood := { row := callTrimsRow, standIns := [], harness := (true, "56b6cdbb6ece0af63ee0992484941b973b8c59ec90f57df0bfc218d7fc1921a6"), looks := true }, kinds := [], alts := [], laidByText := true, laidKinds := [.data, .data, .data, .data, .pinned], laidTests := true, laidLooks := .later }
def CallTrimsCardSaid : Prop := Claim7.holds Tryz.pinned (.plain (OpenSpec.ofChange callTrimsSpec)) callTrimsCard

/-- THE SECOND FORM's CARD OF 'apostillelaw09.SpaceSorts'. -/
def spaceSortsUptoCard : Claim7 := { stood := { row := spaceSortsUptoRow, standIns := [], harness := (true, "56b6cdbb6ece0af63ee0992484941b973b8c59ec90f57df0bfc218d7fc1921a6"), looks := true }, kinds := [], alts := [], laidByText := true, laidKinds := [.data, .pinned], laidTests := true, laidLooks := .later }
def SpaceSortsUptoCardSaid : Prop := Claim7.holds Tryz.pinned (.plain (OpenSpec.upto spaceSortsSpec)) spaceSortsUptoCard

/-- THE SECOND FORM's CARD OF 'apostillelaw10.PointOrders'. -/
def pointOrdersUptoCard : Claim7 := { stood := { row := pointOrdersUptoRow, standIns := [], harness := (true, "56b6cdbb6ece0af63ee0992484941b973b8c59ec90f57df0bfc218d7fc1921a6"), looks := true }, kinds := [], alts := [], laidByText := true, laidKinds := [.data, .pinned], laidTests := true, laidLooks := .later }
def PointOrdersUptoCardSaid : Prop := Claim7.holds Tryz.pinned (.plain (OpenSpec.upto pointOrdersSpec)) pointOrdersUptoCard

/-- THE SECOND FORM's CARD OF 'apostillelaw13.AxisNames'. -/
def axisNamesUptoCard : Claim7 := { stood := { row := axisNamesUptoRow, standIns := [], harness := (true, "56b6cdbb6ece0af63ee0992484941b973b8c59ec90f57df0bfc218d7fc1921a6"), looks := true }, kinds := [], alts := [], laidByText := true, laidKinds := [.data, .pinned], laidTests := true, laidLooks := .later }
def AxisNamesUptoCardSaid : Prop := Claim7.holds Tryz.pinned (.plain (OpenSpec.upto axisNamesSpec)) axisNamesUptoCard

/-- THE SECOND FORM's CARD OF 'apostillelaw17.CallCuts'. -/
def callCutsUptoCard : Claim7 := { stood := { row := callCutsUptoRow, standIns := [], harness := (true, "56b6cdbb6ece0af63ee0992484941b973b8c59ec90f57df0bfc218d7fc1921a6"), looks := true }, kinds := [], alts := [], laidByText := true, laidKinds := [.data, .data, .data, .data, .pinned], laidTests := true, laidLooks := .later }
def CallCutsUptoCardSaid : Prop := Claim7.holds Tryz.pinned (.plain (OpenSpec.upto callCutsSpec)) callCutsUptoCard

/-- THE SECOND FORM's CARD OF 'apostillelaw17.CallNil'. -/
def callNilUptoCard : Claim7 := { stood := { row := callNilUptoRow, standIns := [], harness := (true, "56b6cdbb6ece0af63ee0992484941b973b8c59ec90f57df0bfc218d7fc1921a6"), looks := true }, kinds := [], alts := [], laidByText := true, laidKinds := [.data, .data, .data, .data, .pinned], laidTests := true, laidLooks := .later }
def CallNilUptoCardSaid : Prop := Claim7.holds Tryz.pinned (.plain (OpenSpec.upto callNilSpec)) callNilUptoCard

/-- THE SECOND FORM's CARD OF 'apostillelaw17.CallTexts'. -/
def callTextsUptoCard : Claim7 := { stood := { row := callTextsUptoRow, standIns := [], harness := (true, "56b6cdbb6ece0af63ee0992484941b973b8c59ec90f57df0bfc218d7fc1921a6"), looks := true }, kinds := [], alts := [], laidByText := true, laidKinds := [.data, .data, .data, .data, .pinned], laidTests := true, laidLooks := .later }
def CallTextsUptoCardSaid : Prop := Claim7.holds Tryz.pinned (.plain (OpenSpec.upto callTextsSpec)) callTextsUptoCard

/-- THE SECOND FORM's CARD OF 'apostillelaw17.CallTrims'. -/
def callTrimsUptoCard : Claim7 := { stood := { row := callTrimsUptoRow, standIns := [], harness := (true, "56b6cdbb6ece0af63ee0992484941b973b8c59ec90f57df0bfc218d7fc1921a6"), looks := true }, kinds := [], alts := [], laidByText := true, laidKinds := [.data, .data, .data, .data, .pinned], laidTests := true, laidLooks := .later }
def CallTrimsUptoCardSaid : Prop := Claim7.holds Tryz.pinned (.plain (OpenSpec.upto callTrimsSpec)) callTrimsUptoCard
end Rows
end Go.Proofs.YtipbfnjpfmmkfaaGreatDoor
