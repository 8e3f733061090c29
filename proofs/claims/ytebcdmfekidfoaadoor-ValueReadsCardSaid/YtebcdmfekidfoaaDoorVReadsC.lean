/-
  ValueReads: what number any text is, or that it is none, or beyond, is what the document says: for every text. The package variables that the row lists are read nowhere on the way. Conditions: none.
-/
import Derived.Test.YtebcdmfekidfoaaDoorRows
import Derived.Test.YtebcdmfekidfoaaDoorTie
import Derived.Test.YtebcdmfekidfoaaDoorCards
import Derived.Test.YtebcdmfekidfoaaDoorVWalk
import Derived.Test.YtebcdmfekidfoaaDoorVRef
import Derived.Test.YtebcdmfekidfoaaDoorAbsLaw
import Derived.WalkKit
import Derived.ProofKit
import Derived.OpenShut
import Derived.LaidMore
import Derived.Lay
import Derived.SevenTiedAt
import Derived.Stop.Joined
namespace Go.Proofs.YtebcdmfekidfoaaDoor
open Go Go.Abs Go.ChangeShapes Go.WideShapes Go.ChangeAt Go.RowKit
set_option linter.unusedVariables false
theorem bytes_back (s : ByteArray) : (⟨s.data.toList.toArray⟩ : ByteArray) = s := by cases s; simp
theorem lawOwn : ownKnob Tryd.prog.godebug = none := by kernel_rfl
theorem reads_spec (s : ByteArray) : PSpec Tryd.prog 3 [.pl (.string s)] (.pl (.bool true)) := by
  have h := (apostillelaw16_ValueReads_ok (G.ValueReads_eq s.data.toList)).p
  have e : S s.data.toList = AV.pl (.string s) := congrArg (fun b => AV.pl (.string b)) (bytes_back s)
  rw [e] at h
  exact h
set_option maxRecDepth 100000 in
theorem reads_lifted (os : Os) (started : os.Started) (H : Type) (enc : TypeId × Value → H) :
    ReturnsInHanded {} Tryd.checked os 3 .any (fun w args => (Rows.valueReadsSpec.pre enc Tryd.prog Tryd.f3 Rows.valueReadsRow.domain false w args ∧ laidMetH Tryd.prog Rows.valueReadsRow.laid w) ∧ sizedMet enc Tryd.prog Tryd.f3 (OpenSpec.ofChange Rows.valueReadsSpec) false w args)
      (Rows.valueReadsSpec.post enc Tryd.prog Tryd.f3 false true false false) := by
  refine returnsInHanded_of_change_and (C := Tryd.checked) (X := fun w _ => laidMetH Tryd.prog Rows.valueReadsRow.laid w) (fun _ _ _ hh h => h.of_heap hh) lawOwn started (by kernel_rfl) Tryd.func3
    (ChangeSpec.witness_shaped (enc := enc) (C := Tryd.checked) (os := os) (X := fun w _ => laidMetH Tryd.prog Rows.valueReadsRow.laid w) false (World.laidAll Tryd.prog os Rows.valueReadsRow.laid) #[.string ⟨#[]⟩] 8 (World.laidAll_os _ _ _)
      (World.shaped_of_ZipB (by kernel_rfl) (by kernel_rfl)) (by kernel_rfl) (by kernel_rfl) (by kernel_rfl)
      (by rw [MakeChecks.laidMetH_plain _ _ _ (by kernel_rfl)]; exact laidMet_laidAll _ (by kernel_rfl) (by kernel_rfl))) ?_
  intro W base args ds gs before hval0 hW hc _ hL _
  have hval : ∀ (j : Nat) t v, Tryd.f3.params[j]? = some t → args[j]? = some v → Value.okWide Tryd.prog W .any base t v := hval0
  have hW' := hW
  obtain ⟨p, q, hA0, hV, rfl, _, _⟩ := hW
  have hA : DataW.TrodAll enc Tryd.prog W 0 (fun _ => true) true Tryd.f3.params.toList args.toList ds p := hA0
  rw [Tryd.params3] at hA hval
  obtain ⟨v0, vs0, d0, ds0, p0, q0, hargs, rfl, rfl, h0, r0⟩ := trodAll_cons hA
  obtain ⟨rfl, rfl, rfl⟩ := trodAll_nil r0
  obtain rfl : args = #[v0] := by cases args; simp_all
  obtain ⟨rfl, rfl⟩ := trodVars_none hV
  obtain ⟨s, rfl, _, _, _⟩ := ChangeMaps.open_string Tryd.underlying9 (hval 0 9 v0 rfl rfl) h0
  refine (law_calls (reads_spec s) (vs := #[.string s]) rfl ?_).mono fun e W' ⟨he, hb⟩ => ?_
  · intro i x v hx hv
    match i, hx, hv with
    | 0, hx, hv => simp at hx hv; subst hx hv; exact .pl _
    | i + 1, hx, hv => simp at hx
  · subst he
    exact ⟨_, rfl, law_post (L := [9]) (tb := 4) hW' rfl (by kernel_rfl) (by kernel_rfl) hb (by kernel_rfl) Tryd.underlying4 rfl⟩
theorem valueReads_row : Rows.ValueReadsSaid :=
  OpenClaim.holds_of_wide 3 Tryd.f3 rfl rfl rfl rfl rfl rfl rfl ⟨rfl, rfl, rfl, rfl, rfl⟩ rfl rfl rfl rfl rfl (by kernel_rfl) Tryd.func3 (by kernel_rfl)
    (of_decide_eq_true (by kernel_rfl)) (by unfold Func.isWrapper; first | (rw [if_pos (by decide +kernel)]; kernel_rfl) | (rw [if_neg (by decide +kernel)]; exact ⟨rfl, rfl⟩))
    (fun os started H enc _ => reads_lifted os started H enc)
theorem valueReads : Rows.ValueReadsCardSaid :=
  Claim7.holds_tied_plain_at .later [] [.data, .pinned] true (true, "d6ec3dbc1989c09e7ca685bdc60f162a3b4aaf0eba76d087cdec209a7de03819") false valueReads_row (fun _ h => by cases h) (by kernel_rfl) (fun _ h => by cases h) valueReads_row_tie rfl ⟨rfl, rfl⟩ (by kernel_rfl) rfl
    (fun f fn hf hfn => by
      obtain rfl : f = 3 := Option.some.inj ((show Tryd.prog.funcNamed "apostille/apostillelaw16.ValueReads" = some 3 by kernel_rfl).symm.trans hf) |>.symm
      obtain rfl : fn = Tryd.f3 := (Option.some.inj (Tryd.func3.symm.trans hfn)).symm
      exact ⟨by kernel_rfl, fun j t ht => by
        rw [Tryd.params3] at ht
        have hm : t ∈ [9] := by simpa using Array.mem_of_getElem? ht
        have hall : ([9].all fun u => !Tryd.prog.wantsStandIn u) = true := by kernel_rfl
        exact (show Tryd.prog.wantsStandIn t = false by simpa using List.all_eq_true.1 hall t hm)⟩)
    (by kernel_rfl)
end Go.Proofs.YtebcdmfekidfoaaDoor
