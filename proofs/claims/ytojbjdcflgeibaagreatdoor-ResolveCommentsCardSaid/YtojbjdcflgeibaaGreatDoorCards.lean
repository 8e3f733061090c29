/-
  DERIVED. GIVEN WITH THE SEED: THE CARDS: each row of YtojbjdcflgeibaaGreatDoorRows.lean that lists a variable, with what it lists TIED to the program's text (the seventh form; the later family's looks); each row that meets fmt, with fmt's text TOLD by the authors' own Lean function (tested against real Go, not proved from fmt's source: count such statements apart). THE CARD IS WHAT COUNTS. Prove the row's statement (the work); the ties are given (YtojbjdcflgeibaaGreatDoorTie.lean); close each card by the builder's one call (the guide's Derived/Test/ToyasCard.lean, 'card_holds'). Laid BY PROGRAM, IN A SANDBOX (cutbox-door.mjs). By AI agents, Wed Nov 11 2026. No macro, syntax, notation, axiom, sorry.
-/
import Derived.Test.YtojbjdcflgeibaaGreatDoorRows
import GoSem.ClaimSeven
namespace Go.Proofs.YtojbjdcflgeibaaGreatDoor
namespace Rows

/-- THE TIED CARD OF 'apostillelaw31.AlikeBelow'. -/
def alikeBelowCard : Claim7 := { stood := { row := alikeBelowRow, standIns := [], harness := (true, "38546202bee1a2b9fc40c611b4b27d55205ccb6aaa7a255f6cd0923044ef2e2d"), looks := true }, kinds := [], alts := [], laidByText := true, laidKinds := [.data, .pinned], laidTests := true, laidLooks := .later }
def AlikeBelowCardSaid : Prop := Claim7.holds Tryz.pinned (.plain (OpenSpec.ofChange alikeBelowSpec)) alikeBelowCard

/-- THE TIED CARD OF 'apostillelaw09.SpaceScopes'. -/
def spaceScopesCard : Claim7 := { stood := { row := spaceScopesRow, standIns := [], harness := (true, "38546202bee1a2b9fc40c611b4b27d55205ccb6aaa7a255f6cd0923044ef2e2d"), looks := true }, kinds := [], alts := [], laidByText := true, laidKinds := [.data, .pinned], laidTests := true, laidLooks := .later }
def SpaceScopesCardSaid : Prop := Claim7.holds Tryz.pinned (.plain (OpenSpec.ofChange spaceScopesSpec)) spaceScopesCard

/-- THE TIED CARD OF 'apostillelaw09.SpaceBelow'. -/
def spaceBelowCard : Claim7 := { stood := { row := spaceBelowRow, standIns := [], harness := (true, "38546202bee1a2b9fc40c611b4b27d55205ccb6aaa7a255f6cd0923044ef2e2d"), looks := true }, kinds := [], alts := [], laidByText := true, laidKinds := [.data, .pinned], laidTests := true, laidLooks := .later }
def SpaceBelowCardSaid : Prop := Claim7.holds Tryz.pinned (.plain (OpenSpec.ofChange spaceBelowSpec)) spaceBelowCard

/-- THE TIED CARD OF 'apostillelaw10.PointParts'. -/
def pointPartsCard : Claim7 := { stood := { row := pointPartsRow, standIns := [], harness := (true, "38546202bee1a2b9fc40c611b4b27d55205ccb6aaa7a255f6cd0923044ef2e2d"), looks := true }, kinds := [], alts := [], laidByText := true, laidKinds := [.data, .pinned], laidTests := true, laidLooks := .later }
def PointPartsCardSaid : Prop := Claim7.holds Tryz.pinned (.plain (OpenSpec.ofChange pointPartsSpec)) pointPartsCard

/-- THE TIED CARD OF 'apostillelaw10.PointTexts'. -/
def pointTextsCard : Claim7 := { stood := { row := pointTextsRow, standIns := [], harness := (true, "38546202bee1a2b9fc40c611b4b27d55205ccb6aaa7a255f6cd0923044ef2e2d"), looks := true }, kinds := [], alts := [], laidByText := true, laidKinds := [.data, .pinned], laidTests := true, laidLooks := .later }
def PointTextsCardSaid : Prop := Claim7.holds Tryz.pinned (.plain (OpenSpec.ofChange pointTextsSpec)) pointTextsCard

/-- THE TIED CARD OF 'apostillelaw10.PointTells'. -/
def pointTellsCard : Claim7 := { stood := { row := pointTellsRow, standIns := [], harness := (true, "38546202bee1a2b9fc40c611b4b27d55205ccb6aaa7a255f6cd0923044ef2e2d"), looks := true }, kinds := [], alts := [], laidByText := true, laidKinds := [.data, .pinned], laidTests := true, laidLooks := .later }
def PointTellsCardSaid : Prop := Claim7.holds Tryz.pinned (.plain (OpenSpec.ofChange pointTellsSpec)) pointTellsCard

/-- THE TIED CARD OF 'apostillelaw22.ResolveMeans'. -/
def resolveMeansCard : Claim7 := { stood := { row := resolveMeansRow, standIns := [], harness := (true, "38546202bee1a2b9fc40c611b4b27d55205ccb6aaa7a255f6cd0923044ef2e2d"), looks := true }, kinds := [], alts := [], laidByText := true, laidKinds := [.data, .pinned], laidTests := true, laidLooks := .later }
def ResolveMeansCardSaid : Prop := Claim7.holds Tryz.pinned (.plain (OpenSpec.ofChange resolveMeansSpec)) resolveMeansCard

/-- THE TIED CARD OF 'apostillelaw22.ResolveOut'. -/
def resolveOutCard : Claim7 := { stood := { row := resolveOutRow, standIns := [], harness := (true, "38546202bee1a2b9fc40c611b4b27d55205ccb6aaa7a255f6cd0923044ef2e2d"), looks := true }, kinds := [], alts := [], laidByText := true, laidKinds := [.data, .pinned], laidTests := true, laidLooks := .later }
def ResolveOutCardSaid : Prop := Claim7.holds Tryz.pinned (.plain (OpenSpec.ofChange resolveOutSpec)) resolveOutCard

/-- THE TIED CARD OF 'apostillelaw22.ResolveComments'. -/
def resolveCommentsCard : Claim7 := { stood := { row := resolveCommentsRow, standIns := [], harness := (true, "38546202bee1a2b9fc40c611b4b27d55205ccb6aaa7a255f6cd0923044ef2e2d"), looks := true }, kinds := [], alts := [], laidByText := true, laidKinds := [.data, .pinned], laidTests := true, laidLooks := .later }
def ResolveCommentsCardSaid : Prop := Claim7.holds Tryz.pinned (.plain (OpenSpec.ofChange resolveCommentsSpec)) resolveCommentsCard

/-- THE TIED CARD OF 'apostillelaw13.AxisLeads'. -/
def axisLeadsCard : Claim7 := { stood := { row := axisLeadsRow, standIns := [], harness := (true, "38546202bee1a2b9fc40c611b4b27d55205ccb6aaa7a255f6cd0923044ef2e2d"), looks := true }, kinds := [], alts := [], laidByText := true, laidKinds := [.data, .pinned], laidTests := true, laidLooks := .later }
def AxisLeadsCardSaid : Prop := Claim7.holds Tryz.pinned (.plain (OpenSpec.ofChange axisLeadsSpec)) axisLeadsCard

/-- THE TIED CARD OF 'apostillelaw13.AxisParts'. -/
def axisPartsCard : Claim7 := { stood := { row := axisPartsRow, standIns := [], harness := (true, "38546202bee1a2b9fc40c611b4b27d55205ccb6aaa7a255f6cd0923044ef2e2d"), looks := true }, kinds := [], alts := [], laidByText := true, laidKinds := [.data, .pinned], laidTests := true, laidLooks := .later }
def AxisPartsCardSaid : Prop := Claim7.holds Tryz.pinned (.plain (OpenSpec.ofChange axisPartsSpec)) axisPartsCard

/-- THE TIED CARD OF 'apostillelaw13.AxisTurns'. -/
def axisTurnsCard : Claim7 := { stood := { row := axisTurnsRow, standIns := [], harness := (true, "38546202bee1a2b9fc40c611b4b27d55205ccb6aaa7a255f6cd0923044ef2e2d"), looks := true }, kinds := [], alts := [], laidByText := true, laidKinds := [.data, .pinned], laidTests := true, laidLooks := .later }
def AxisTurnsCardSaid : Prop := Claim7.holds Tryz.pinned (.plain (OpenSpec.ofChange axisTurnsSpec)) axisTurnsCard

/-- THE SECOND FORM's CARD OF 'apostillelaw31.AlikeBelow'. -/
def alikeBelowUptoCard : Claim7 := { stood := { row := alikeBelowUptoRow, standIns := [], harness := (true, "38546202bee1a2b9fc40c611b4b27d55205ccb6aaa7a255f6cd0923044ef2e2d"), looks := true }, kinds := [], alts := [], laidByText := true, laidKinds := [.data, .pinned], laidTests := true, laidLooks := .later }
def AlikeBelowUptoCardSaid : Prop := Claim7.holds Tryz.pinned (.plain (OpenSpec.upto alikeBelowSpec)) alikeBelowUptoCard

/-- THE SECOND FORM's CARD OF 'apostillelaw09.SpaceScopes'. -/
def spaceScopesUptoCard : Claim7 := { stood := { row := spaceScopesUptoRow, standIns := [], harness := (true, "38546202bee1a2b9fc40c611b4b27d55205ccb6aaa7a255f6cd0923044ef2e2d"), looks := true }, kinds := [], alts := [], laidByText := true, laidKinds := [.data, .pinned], laidTests := true, laidLooks := .later }
def SpaceScopesUptoCardSaid : Prop := Claim7.holds Tryz.pinned (.plain (OpenSpec.upto spaceScopesSpec)) spaceScopesUptoCard

/-- THE SECOND FORM's CARD OF 'apostillelaw09.SpaceBelow'. -/
def spaceBelowUptoCard : Claim7 := { stood := { row := spaceBelowUptoRow, standIns := [], harness := (true, "38546202bee1a2b9fc40c611b4b27d55205ccb6aaa7a255f6cd0923044ef2e2d"), looks := true }, kinds := [], alts := [], laidByText := true, laidKinds := [.data, .pinned], laidTests := true, laidLooks := .later }
def SpaceBelowUptoCardSaid : Prop := Claim7.holds Tryz.pinned (.plain (OpenSpec.upto spaceBelowSpec)) spaceBelowUptoCard

/-- THE SECOND FORM's CARD OF 'apostillelaw10.PointParts'. -/
def pointPartsUptoCard : Claim7 := { stood := { row := pointPartsUptoRow, standIns := [], harness := (true, "38546202bee1a2b9fc40c611b4b27d55205ccb6aaa7a255f6cd0923044ef2e2d"), looks := true }, kinds := [], alts := [], laidByText := true, laidKinds := [.data, .pinned], laidTests := true, laidLooks := .later }
def PointPartsUptoCardSaid : Prop := Claim7.holds Tryz.pinned (.plain (OpenSpec.upto pointPartsSpec)) pointPartsUptoCard

/-- THE SECOND FORM's CARD OF 'apostillelaw10.PointTexts'. -/
def pointTextsUptoCard : Claim7 := { stood := { row := pointTextsUptoRow, standIns := [], harness := (true, "38546202bee1a2b9fc40c611b4b27d55205ccb6aaa7a255f6cd0923044ef2e2d"), looks := true }, kinds := [], alts := [], laidByText := true, laidKinds := [.data, .pinned], laidTests := true, laidLooks := .later }
def PointTextsUptoCardSaid : Prop := Claim7.holds Tryz.pinned (.plain (OpenSpec.upto pointTextsSpec)) pointTextsUptoCard

/-- THE SECOND FORM's CARD OF 'apostillelaw10.PointTells'. -/
def pointTellsUptoCard : Claim7 := { stood := { row := pointTellsUptoRow, standIns := [], harness := (true, "38546202bee1a2b9fc40c611b4b27d55205ccb6aaa7a255f6cd0923044ef2e2d"), looks := true }, kinds := [], alts := [], laidByText := true, laidKinds := [.data, .pinned], laidTests := true, laidLooks := .later }
def PointTellsUptoCardSaid : Prop := Claim7.holds Tryz.pinned (.plain (OpenSpec.upto pointTellsSpec)) pointTellsUptoCard

/-- THE SECOND FORM's CARD OF 'apostillelaw22.ResolveMeans'. -/
def resolveMeansUptoCard : Claim7 := { stood := { row := resolveMeansUptoRow, standIns := [], harness := (true, "38546202bee1a2b9fc40c611b4b27d55205ccb6aaa7a255f6cd0923044ef2e2d"), looks := true }, kinds := [], alts := [], laidByText := true, laidKinds := [.data, .pinned], laidTests := true, laidLooks := .later }
def ResolveMeansUptoCardSaid : Prop := Claim7.holds Tryz.pinned (.plain (OpenSpec.upto resolveMeansSpec)) resolveMeansUptoCard

/-- THE SECOND FORM's CARD OF 'apostillelaw22.ResolveOut'. -/
def resolveOutUptoCard : Claim7 := { stood := { row := resolveOutUptoRow, standIns := [], harness := (true, "38546202bee1a2b9fc40c611b4b27d55205ccb6aaa7a255f6cd0923044ef2e2d"), looks := true }, kinds := [], alts := [], laidByText := true, laidKinds := [.data, .pinned], laidTests := true, laidLooks := .later }
def ResolveOutUptoCardSaid : Prop := Claim7.holds Tryz.pinned (.plain (OpenSpec.upto resolveOutSpec)) resolveOutUptoCard

/-- THE SECOND FORM's CARD OF 'apostillelaw22.ResolveComments'. -/
def resolveCommentsUptoCard : Claim7 := { stood := { row := resolveCommentsUptoRow, standIns := [], harness := (true, "38546202bee1a2b9fc40c611b4b27d55205ccb6aaa7a255f6cd0923044ef2e2d"), looks := true }, kinds := [], alts := [], laidByText := true, laidKinds := [.data, .pinned], laidTests := true, laidLooks := .later }
def ResolveCommentsUptoCardSaid : Prop := Claim7.holds Tryz.pinned (.plain (OpenSpec.upto resolveCommentsSpec)) resolveCommentsUptoCard

/-- THE SECOND FORM's CARD OF 'apostillelaw13.AxisLeads'. -/
def axisLeadsUptoCard : Claim7 := { stood := { row := axisLeadsUptoRow, standIns := [], harness := (true, "38546202bee1a2b9fc40c611b4b27d55205ccb6aaa7a255f6cd0923044ef2e2d"), looks := true }, kinds := [], alts := [], laidByText := true, laidKinds := [.data, .pinned], laidTests := true, laidLooks := .later }
def AxisLeadsUptoCardSaid : Prop := Claim7.holds Tryz.pinned (.plain (OpenSpec.upto axisLeadsSpec)) axisLeadsUptoCard

/-- THE SECOND FORM's CARD OF 'apostillelaw13.AxisParts'. -/
def axisPartsUptoCard : Claim7 := { stood := { row := axisPartsUptoRow, standIns := [], harness := (true, "38546202bee1a2b9fc40c611b4b27d55205ccb6aaa7a255f6cd0923044ef2e2d"), looks := true }, kinds := [], alts := [], laidByText := true, laidKinds := [.data, .pinned], laidTests := true, laidLooks := .later }
def AxisPartsUptoCardSaid : Prop := Claim7.holds Tryz.pinned (.plain (OpenSpec.upto axisPartsSpec)) axisPartsUptoCard

/-- THE SECOND FORM's CARD OF 'apostillelaw13.AxisTurns'. -/
def axisTurnsUptoCard : Claim7 := { stood := { row := axisTurnsUptoRow, standIns := [], harness := (true, "38546202bee1a2b9fc40c611b4b27d55205ccb6aaa7a255f6cd0923044ef2e2d"), looks := true }, kinds := [], alts := [], laidByText := true, laidKinds := [.data, .pinned], laidTests := true, laidLooks := .later }
def AxisTurnsUptoCardSaid : Prop := Claim7.holds Tryz.pinned (.plain (OpenSpec.upto axisTurnsSpec)) axisTurnsUptoCard
end Rows
end Go.Proofs.YtojbjdcflgeibaaGreatDoor
