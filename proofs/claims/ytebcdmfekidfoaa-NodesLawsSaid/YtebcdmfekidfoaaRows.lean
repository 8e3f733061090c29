/-
  No cell of these rows narrows 'for every input' (looked for: loops, veiled, ifaces, maps, wideKeys, modest, calm, conditions, laid).
  DERIVED. THE GIVEN ROWS OF THIS SEAT. 6 by the template 'for every input the law returns true; each argument reads behind the call as it read before'; 0 by the template 'total and deterministic' (their statements: YtebcdmfekidfoaaTotals.lean).
  GIVEN WITH THE SEED: the statements are not yours to turn. If you find one false, say at which input.
  Laid BY PROGRAM, IN A SANDBOX (cutbox-rows.mjs): the forced cells as the released guide's own fill.sh prints them over the translation cda34dd34266ec68… (all of the seat's roots in one cut). By AI agents, Wed Nov 11 2026. No macro, syntax, notation, axiom, sorry.
-/
import Derived.Test.YtebcdmfekidfoaaChecked
import GoSem.Claim
import GoSem.ClaimJoined
import GoSem.ClaimMapViews
import Derived.JoinedTies
import Derived.KernelRfl
namespace Go.Proofs.Ytebcdmfekidfoaa
/- THE CELL 'sum', in the pinned program and in every row, IS THE sha256 OF THE DUMP (.gsa) THAT YtebcdmfekidfoaaProg.lean LOADS. Nothing in Lean hashes anything: it is a label: what it is worth is what the hold of that sum in a sandbox is worth. -/
noncomputable def Try.pinned : Pinned := { name := "ytebcdmfekidfoaa", sum := "cda34dd34266ec687b1e544b82ab3037de2f8ba4814eee515b886c30bccedc5b", checked := Try.checked }
namespace Rows
def none {H : Type} : Left H := { results := [], args := [] }

/-- 'apostillelaw26.PolicyFinds': WHATEVER THE INPUT: true; the input reads as it did. -/
def policyFindsSpec : ChangeSpec := { name := "policyFinds", fn := fun _ => fun
  | [d1, d2] => { results := [.lit (.bool true)], args := [d1, d2] }
  | _ => none }
def policyFindsRow : OpenClaim := { program := "ytebcdmfekidfoaa", sum := "cda34dd34266ec687b1e544b82ab3037de2f8ba4814eee515b886c30bccedc5b", func := "apostille/apostillelaw26.PolicyFinds", spec := "policyFinds", unfollowed := true, recurses := true, apart := false }
def PolicyFindsSaid : Prop := policyFindsRow.holds Try.pinned (OpenSpec.ofChange policyFindsSpec)

/-- ITS FALSE NEIGHBOUR: 'it returns false'. Refute it at one input. -/
def policyFindsWrong : ChangeSpec := { name := "policyFinds", fn := fun _ => fun
  | [d1, d2] => { results := [.lit (.bool false)], args := [d1, d2] }
  | _ => none }
def PolicyFindsWrongFalsely : Prop := policyFindsRow.holds Try.pinned (OpenSpec.ofChange policyFindsWrong)

/-- 'apostillelaw26.PolicyAllows': WHATEVER THE INPUT: true; the input reads as it did. -/
def policyAllowsSpec : ChangeSpec := { name := "policyAllows", fn := fun _ => fun
  | [d1, d2] => { results := [.lit (.bool true)], args := [d1, d2] }
  | _ => none }
def policyAllowsRow : OpenClaim := { program := "ytebcdmfekidfoaa", sum := "cda34dd34266ec687b1e544b82ab3037de2f8ba4814eee515b886c30bccedc5b", func := "apostille/apostillelaw26.PolicyAllows", spec := "policyAllows", unfollowed := true, recurses := true, apart := false }
def PolicyAllowsSaid : Prop := policyAllowsRow.holds Try.pinned (OpenSpec.ofChange policyAllowsSpec)

/-- ITS FALSE NEIGHBOUR: 'it returns false'. Refute it at one input. -/
def policyAllowsWrong : ChangeSpec := { name := "policyAllows", fn := fun _ => fun
  | [d1, d2] => { results := [.lit (.bool false)], args := [d1, d2] }
  | _ => none }
def PolicyAllowsWrongFalsely : Prop := policyAllowsRow.holds Try.pinned (OpenSpec.ofChange policyAllowsWrong)

/-- 'apostillelaw26.PolicyMore': WHATEVER THE INPUT: true; the input reads as it did. -/
def policyMoreSpec : ChangeSpec := { name := "policyMore", fn := fun _ => fun
  | [d1, d2] => { results := [.lit (.bool true)], args := [d1, d2] }
  | _ => none }
def policyMoreRow : OpenClaim := { program := "ytebcdmfekidfoaa", sum := "cda34dd34266ec687b1e544b82ab3037de2f8ba4814eee515b886c30bccedc5b", func := "apostille/apostillelaw26.PolicyMore", spec := "policyMore", unfollowed := true, recurses := true, apart := false }
def PolicyMoreSaid : Prop := policyMoreRow.holds Try.pinned (OpenSpec.ofChange policyMoreSpec)

/-- ITS FALSE NEIGHBOUR: 'it returns false'. Refute it at one input. -/
def policyMoreWrong : ChangeSpec := { name := "policyMore", fn := fun _ => fun
  | [d1, d2] => { results := [.lit (.bool false)], args := [d1, d2] }
  | _ => none }
def PolicyMoreWrongFalsely : Prop := policyMoreRow.holds Try.pinned (OpenSpec.ofChange policyMoreWrong)

/-- 'apostillelaw11.NodesSets': WHATEVER THE INPUT: true; the input reads as it did. -/
def nodesSetsSpec : ChangeSpec := { name := "nodesSets", fn := fun _ => fun
  | [d1, d2] => { results := [.lit (.bool true)], args := [d1, d2] }
  | _ => none }
def nodesSetsRow : OpenClaim := { program := "ytebcdmfekidfoaa", sum := "cda34dd34266ec687b1e544b82ab3037de2f8ba4814eee515b886c30bccedc5b", func := "apostille/apostillelaw11.NodesSets", spec := "nodesSets", unfollowed := true, recurses := true, apart := false }
def NodesSetsSaid : Prop := nodesSetsRow.holds Try.pinned (OpenSpec.ofChange nodesSetsSpec)

/-- ITS FALSE NEIGHBOUR: 'it returns false'. Refute it at one input. -/
def nodesSetsWrong : ChangeSpec := { name := "nodesSets", fn := fun _ => fun
  | [d1, d2] => { results := [.lit (.bool false)], args := [d1, d2] }
  | _ => none }
def NodesSetsWrongFalsely : Prop := nodesSetsRow.holds Try.pinned (OpenSpec.ofChange nodesSetsWrong)

/-- 'apostillelaw11.NodesMeets': WHATEVER THE INPUT: true; the input reads as it did. -/
def nodesMeetsSpec : ChangeSpec := { name := "nodesMeets", fn := fun _ => fun
  | [d1, d2] => { results := [.lit (.bool true)], args := [d1, d2] }
  | _ => none }
def nodesMeetsRow : OpenClaim := { program := "ytebcdmfekidfoaa", sum := "cda34dd34266ec687b1e544b82ab3037de2f8ba4814eee515b886c30bccedc5b", func := "apostille/apostillelaw11.NodesMeets", spec := "nodesMeets", unfollowed := true, recurses := true, apart := false }
def NodesMeetsSaid : Prop := nodesMeetsRow.holds Try.pinned (OpenSpec.ofChange nodesMeetsSpec)

/-- ITS FALSE NEIGHBOUR: 'it returns false'. Refute it at one input. -/
def nodesMeetsWrong : ChangeSpec := { name := "nodesMeets", fn := fun _ => fun
  | [d1, d2] => { results := [.lit (.bool false)], args := [d1, d2] }
  | _ => none }
def NodesMeetsWrongFalsely : Prop := nodesMeetsRow.holds Try.pinned (OpenSpec.ofChange nodesMeetsWrong)

/-- 'apostillelaw11.NodesLaws': WHATEVER THE INPUT: true; the input reads as it did. -/
def nodesLawsSpec : ChangeSpec := { name := "nodesLaws", fn := fun _ => fun
  | [d1, d2, d3] => { results := [.lit (.bool true)], args := [d1, d2, d3] }
  | _ => none }
def nodesLawsRow : OpenClaim := { program := "ytebcdmfekidfoaa", sum := "cda34dd34266ec687b1e544b82ab3037de2f8ba4814eee515b886c30bccedc5b", func := "apostille/apostillelaw11.NodesLaws", spec := "nodesLaws", unfollowed := true, recurses := true, apart := false }
def NodesLawsSaid : Prop := nodesLawsRow.holds Try.pinned (OpenSpec.ofChange nodesLawsSpec)

/-- ITS FALSE NEIGHBOUR: 'it returns false'. Refute it at one input. -/
def nodesLawsWrong : ChangeSpec := { name := "nodesLaws", fn := fun _ => fun
  | [d1, d2, d3] => { results := [.lit (.bool false)], args := [d1, d2, d3] }
  | _ => none }
def NodesLawsWrongFalsely : Prop := nodesLawsRow.holds Try.pinned (OpenSpec.ofChange nodesLawsWrong)

/- THE SECOND FORM. 'bulk': how many values and letters a reading holds, each counted each time it is reached (what is shared counts as often as it is met; a slice's spare places count too). A statement '..UptoSaid' is the law's where the arguments, and the package variables that the reading takes, are together of bulk at most 1048576: NARROWER than '..Said'. Prove '..Said' where nothing that the law and all that it calls make is longer than what came in: it says more and counts as full. Else prove '..UptoSaid'. A law counts once. -/
mutual
def uptoBulk {H : Type} : DataW H → Nat
  | .lit (.string bytes) => bytes.length + 1
  | .lit _ => 1
  | .nil => 1
  | .ptr d => uptoBulk d + 1
  | .slice elems spare => uptoBulkAll elems + uptoBulkAll spare + 1
  | .agg parts => uptoBulkAll parts + 1
  | .iface _ d => uptoBulk d + 1
  | .map entries => uptoBulkEntries entries + 1
  | .held _ => 1
def uptoBulkAll {H : Type} : List (DataW H) → Nat
  | [] => 0
  | d :: r => uptoBulk d + uptoBulkAll r
def uptoBulkEntries {H : Type} : List (Lit × DataW H) → Nat
  | [] => 0
  | x :: r => uptoBulkEntry x + uptoBulkEntries r
def uptoBulkEntry {H : Type} : Lit × DataW H → Nat
  | (.string bytes, d) => bytes.length + uptoBulk d + 1
  | (_, d) => uptoBulk d + 1
 end
def uptoSmall : (H : Type) → List (DataW H) → Bool := fun _ ds => decide (uptoBulkAll ds ≤ 1048576)
def OpenSpec.upto (s : _root_.Go.ChangeSpec) : _root_.Go.OpenSpec := { _root_.Go.OpenSpec.ofChange s with cond := some uptoSmall }

/-- 'apostillelaw26.PolicyFinds', WHERE WHAT IT READS IS OF BULK AT MOST 1048576: true; the input reads as it did. -/
def policyFindsUptoRow : OpenClaim := { program := "ytebcdmfekidfoaa", sum := "cda34dd34266ec687b1e544b82ab3037de2f8ba4814eee515b886c30bccedc5b", func := "apostille/apostillelaw26.PolicyFinds", spec := "policyFinds", unfollowed := true, recurses := true, apart := false, narrowed := true }
def PolicyFindsUptoSaid : Prop := policyFindsUptoRow.holds Try.pinned (OpenSpec.upto policyFindsSpec)

/-- 'apostillelaw26.PolicyAllows', WHERE WHAT IT READS IS OF BULK AT MOST 1048576: true; the input reads as it did. -/
def policyAllowsUptoRow : OpenClaim := { program := "ytebcdmfekidfoaa", sum := "cda34dd34266ec687b1e544b82ab3037de2f8ba4814eee515b886c30bccedc5b", func := "apostille/apostillelaw26.PolicyAllows", spec := "policyAllows", unfollowed := true, recurses := true, apart := false, narrowed := true }
def PolicyAllowsUptoSaid : Prop := policyAllowsUptoRow.holds Try.pinned (OpenSpec.upto policyAllowsSpec)

/-- 'apostillelaw26.PolicyMore', WHERE WHAT IT READS IS OF BULK AT MOST 1048576: true; the input reads as it did. -/
def policyMoreUptoRow : OpenClaim := { program := "ytebcdmfekidfoaa", sum := "cda34dd34266ec687b1e544b82ab3037de2f8ba4814eee515b886c30bccedc5b", func := "apostille/apostillelaw26.PolicyMore", spec := "policyMore", unfollowed := true, recurses := true, apart := false, narrowed := true }
def PolicyMoreUptoSaid : Prop := policyMoreUptoRow.holds Try.pinned (OpenSpec.upto policyMoreSpec)

/-- 'apostillelaw11.NodesSets', WHERE WHAT IT READS IS OF BULK AT MOST 1048576: true; the input reads as it did. -/
def nodesSetsUptoRow : OpenClaim := { program := "ytebcdmfekidfoaa", sum := "cda34dd34266ec687b1e544b82ab3037de2f8ba4814eee515b886c30bccedc5b", func := "apostille/apostillelaw11.NodesSets", spec := "nodesSets", unfollowed := true, recurses := true, apart := false, narrowed := true }
def NodesSetsUptoSaid : Prop := nodesSetsUptoRow.holds Try.pinned (OpenSpec.upto nodesSetsSpec)

/-- 'apostillelaw11.NodesMeets', WHERE WHAT IT READS IS OF BULK AT MOST 1048576: true; the input reads as it did. -/
def nodesMeetsUptoRow : OpenClaim := { program := "ytebcdmfekidfoaa", sum := "cda34dd34266ec687b1e544b82ab3037de2f8ba4814eee515b886c30bccedc5b", func := "apostille/apostillelaw11.NodesMeets", spec := "nodesMeets", unfollowed := true, recurses := true, apart := false, narrowed := true }
def NodesMeetsUptoSaid : Prop := nodesMeetsUptoRow.holds Try.pinned (OpenSpec.upto nodesMeetsSpec)

/-- 'apostillelaw11.NodesLaws', WHERE WHAT IT READS IS OF BULK AT MOST 1048576: true; the input reads as it did. -/
def nodesLawsUptoRow : OpenClaim := { program := "ytebcdmfekidfoaa", sum := "cda34dd34266ec687b1e544b82ab3037de2f8ba4814eee515b886c30bccedc5b", func := "apostille/apostillelaw11.NodesLaws", spec := "nodesLaws", unfollowed := true, recurses := true, apart := false, narrowed := true }
def NodesLawsUptoSaid : Prop := nodesLawsUptoRow.holds Try.pinned (OpenSpec.upto nodesLawsSpec)

end Rows
end Go.Proofs.Ytebcdmfekidfoaa
