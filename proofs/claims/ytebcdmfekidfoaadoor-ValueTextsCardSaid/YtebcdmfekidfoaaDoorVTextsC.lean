/-
  ValueTexts: a text is itself as a text; what it is as a number is that of its text without blanks; a truth's text is no number: for every text and truth. The package variables that the row lists are read nowhere on the way. Conditions: none.
-/
import Derived.Test.YtebcdmfekidfoaaDoorRows
import Derived.Test.YtebcdmfekidfoaaDoorTie
import Derived.Test.YtebcdmfekidfoaaDoorCards
import Derived.Test.YtebcdmfekidfoaaDoorVWalk
import Derived.Test.YtebcdmfekidfoaaDoorVTexts
import Derived.Test.YtebcdmfekidfoaaDoorAbsLaw
import Derived.WalkKit
import Derived.ProofKit
import Derived.OpenShut
import Derived.LaidMore
import Derived.Lay
import Derived.SevenTiedAt
import Derived.Stop.Joined
namespace Go.Proofs.YtebcdmfekidfoaaDoor
open Go Go.Abs Go.ChangeShapes Go.WideShapes Go.ChangeAt Go.RowKit
set_option linter.unusedVariables false
theorem bytes_back (s : ByteArray) : (⟨s.data.toList.toArray⟩ : ByteArray) = s := by cases s; simp
theorem lawOwn : ownKnob Tryd.prog.godebug = none := by kernel_rfl
theorem texts_spec (s : ByteArray) (b : Bool) : PSpec Tryd.prog 6 [.pl (.string s), .pl (.bool b)] (.pl (.bool true)) := by
  have h := (apostillelaw16_ValueTexts_ok (G.ValueTexts_eq s.data.toList b)).p
  have e : S s.data.toList = AV.pl (.string s) := congrArg (fun b => AV.pl (.string b)) (bytes_back s)
  rw [e] at h
  exact h
set_option maxRecDepth 100000 in
theorem texts_lifted (os : Os) (started : os.Started) (H : Type) (enc : TypeId × Value → H) :
    ReturnsInHanded {} Tryd.checked os 6 .any (fun w args => (Rows.valueTextsSpec.pre enc Tryd.prog Tryd.f6 Rows.valueTextsRow.domain false w args ∧ laidMetH Tryd.prog Rows.valueTextsRow.laid w) ∧ sizedMet enc Tryd.prog Tryd.f6 (OpenSpec.ofChange Rows.valueTextsSpec) false w args)
      (Rows.valueTextsSpec.post enc Tryd.prog Tryd.f6 false true false false) := by
  refine returnsInHanded_of_change_and (C := Tryd.checked) (X := fun w _ => laidMetH Tryd.prog Rows.valueTextsRow.laid w) (fun _ _ _ hh h => h.of_heap hh) lawOwn started (by kernel_rfl) Tryd.func6
    (ChangeSpec.witness_shaped (enc := enc) (C := Tryd.checked) (os := os) (X := fun w _ => laidMetH Tryd.prog Rows.valueTextsRow.laid w) false (World.laidAll Tryd.prog os Rows.valueTextsRow.laid) #[.string ⟨#[]⟩, .bool false] 8 (World.laidAll_os _ _ _)
      (World.shaped_of_ZipB (by kernel_rfl) (by kernel_rfl)) (by kernel_rfl) (by kernel_rfl) (by kernel_rfl)
      (by rw [MakeChecks.laidMetH_plain _ _ _ (by kernel_rfl)]; exact laidMet_laidAll _ (by kernel_rfl) (by kernel_rfl))) ?_
  intro W base args ds gs before hval0 hW hc _ hL _
  have hval : ∀ (j : Nat) t v, Tryd.f6.params[j]? = some t → args[j]? = some v → Value.okWide Tryd.prog W .any base t v := hval0
  have hW' := hW
  obtain ⟨p, q, hA0, hV, rfl, _, _⟩ := hW
  have hA : DataW.TrodAll enc Tryd.prog W 0 (fun _ => true) true Tryd.f6.params.toList args.toList ds p := hA0
  rw [Tryd.params6] at hA hval
  obtain ⟨v0, vs0, d0, ds0, p0, q0, hargs, rfl, rfl, h0, r0⟩ := trodAll_cons hA
  obtain ⟨v1, vs1, d1, ds1, p1, q1, hargs1, rfl, rfl, h1, r1⟩ := trodAll_cons r0
  obtain ⟨rfl, rfl, rfl⟩ := trodAll_nil r1
  obtain rfl : args = #[v0, v1] := by cases args; simp_all
  obtain ⟨rfl, rfl⟩ := trodVars_none hV
  obtain ⟨s, rfl, _, _, _⟩ := ChangeMaps.open_string Tryd.underlying9 (hval 0 9 v0 rfl rfl) h0
  obtain ⟨b, rfl, _, _⟩ := open_bool Tryd.underlying4 (hval 1 4 v1 rfl rfl) h1
  refine (law_calls (texts_spec s b) (vs := #[.string s, .bool b]) rfl ?_).mono fun e W' ⟨he, hb⟩ => ?_
  · intro i x v hx hv
    match i, hx, hv with
    | 0, hx, hv => simp at hx hv; subst hx hv; exact .pl _
    | 1, hx, hv => simp at hx hv; subst hx hv; exact .pl _
    | i + 2, hx, hv => simp at hx
  · subst he
    exact ⟨_, rfl, law_post (L := [9, 4]) (tb := 4) hW' rfl (by kernel_rfl) (by kernel_rfl) hb (by kernel_rfl) Tryd.underlying4 rfl⟩
theorem valueTexts_row : Rows.ValueTextsSaid :=
  OpenClaim.holds_of_wide 6 Tryd.f6 rfl rfl rfl rfl rfl rfl rfl ⟨rfl, rfl, rfl, rfl, rfl⟩ rfl rfl rfl rfl rfl (by kernel_rfl) Tryd.func6 (by kernel_rfl)
    (of_decide_eq_true (by kernel_rfl)) (by unfold Func.isWrapper; first | (rw [if_pos (by decide +kernel)]; kernel_rfl) | (rw [if_neg (by decide +kernel)]; exact ⟨rfl, rfl⟩))
    (fun os started H enc _ => texts_lifted os started H enc)
theorem valueTexts : Rows.ValueTextsCardSaid :=
  Claim7.holds_tied_plain_at .later [] [.data, .data, .data, .data, .pinned] true (true, "d6ec3dbc1989c09e7ca685bdc60f162a3b4aaf0eba76d087cdec209a7de03819") false valueTexts_row (fun _ h => by cases h) (by kernel_rfl) (fun _ h => by cases h) valueTexts_row_tie rfl ⟨rfl, rfl⟩ (by kernel_rfl) rfl
    (fun f fn hf hfn => by
      obtain rfl : f = 6 := Option.some.inj ((show Tryd.prog.funcNamed "apostille/apostillelaw16.ValueTexts" = some 6 by kernel_rfl).symm.trans hf) |>.symm
      obtain rfl : fn = Tryd.f6 := (Option.some.inj (Tryd.func6.symm.trans hfn)).symm
      exact ⟨by kernel_rfl, fun j t ht => by
        rw [Tryd.params6] at ht
        have hm : t ∈ [9, 4] := by simpa using Array.mem_of_getElem? ht
        have hall : ([9, 4].all fun u => !Tryd.prog.wantsStandIn u) = true := by kernel_rfl
        exact (show Tryd.prog.wantsStandIn t = false by simpa using List.all_eq_true.1 hall t hm)⟩)
    (by kernel_rfl)
end Go.Proofs.YtebcdmfekidfoaaDoor
