/-
  ValueBack: a number's text is read as the number: for every number. The package variables that the row lists are read nowhere on the way, or as they were laid. Conditions: none.
-/
import Derived.Test.YtebcdmfekidfoaaDoorRows
import Derived.Test.YtebcdmfekidfoaaDoorTie
import Derived.Test.YtebcdmfekidfoaaDoorCards
import Derived.Test.YtebcdmfekidfoaaDoorVWalk
import Derived.Test.YtebcdmfekidfoaaDoorVBack
import Derived.MakeChecks
import Derived.Test.YtebcdmfekidfoaaDoorAbsLaw
import Derived.WalkKit
import Derived.ProofKit
import Derived.OpenShut
import Derived.LaidMore
import Derived.Lay
import Derived.SevenTiedAt
import Derived.Stop.Joined
namespace Go.Proofs.YtebcdmfekidfoaaDoor
open Go Go.Abs Go.ChangeShapes Go.WideShapes Go.ChangeAt Go.RowKit W G
set_option linter.unusedVariables false
theorem lawOwn : ownKnob Tryd.prog.godebug = none := by kernel_rfl
theorem back_spec (n : Int) : PSpec Tryd.prog 5 [.pl (.int .i64 n)] (.pl (.bool true)) := (apostillelaw16_ValueBack_ok (G.ValueBack_eq n)).p
theorem back_glob {W : World} (h : laidMetH Tryd.prog Rows.valueBackRow.laid W) : GOk (fun _ => False) W := by
  rw [MakeChecks.laidMetH_plain _ _ _ (by kernel_rfl)] at h
  have h2 := laid_tail (laid_tail h)
  exact gok_of_tab (g := 1) (k := .u64) (zs := Go.Lib.pow10Tab) (by kernel_rfl) (Go.Lib.tabIs_of_head (g := 1) (t := 147) (e := 121) (n := 20) (rest := [("unicode/utf8.acceptRanges", Rows.laid_unicode_utf8_acceptRanges), ("unicode/utf8.first", Rows.laid_unicode_utf8_first)]) (by kernel_rfl) (by kernel_rfl) (by kernel_rfl) (by kernel_rfl) (by kernel_rfl) (by kernel_rfl) h2) rfl

set_option maxRecDepth 100000 in
theorem valueBack_lifted (os : Os) (started : os.Started) (H : Type) (enc : TypeId × Value → H) :
    ReturnsInHanded {} Tryd.checked os 5 .any (fun w args => (Rows.valueBackSpec.pre enc Tryd.prog Tryd.f5 Rows.valueBackRow.domain false w args ∧ laidMetH Tryd.prog Rows.valueBackRow.laid w) ∧ sizedMet enc Tryd.prog Tryd.f5 (OpenSpec.ofChange Rows.valueBackSpec) false w args)
      (Rows.valueBackSpec.post enc Tryd.prog Tryd.f5 false true false false) := by
  refine returnsInHanded_of_change_and (C := Tryd.checked) (X := fun w _ => laidMetH Tryd.prog Rows.valueBackRow.laid w) (fun _ _ _ hh h => h.of_heap hh) lawOwn started (by kernel_rfl) Tryd.func5
    (ChangeSpec.witness_shaped (enc := enc) (C := Tryd.checked) (os := os) (X := fun w _ => laidMetH Tryd.prog Rows.valueBackRow.laid w) false (World.laidAll Tryd.prog os Rows.valueBackRow.laid) #[.int .i64 0] 8 (World.laidAll_os _ _ _)
      (World.shaped_of_ZipB (by kernel_rfl) (by kernel_rfl)) (by kernel_rfl) (by kernel_rfl) (by kernel_rfl)
      (by rw [MakeChecks.laidMetH_plain _ _ _ (by kernel_rfl)]; exact laidMet_laidAll _ (by kernel_rfl) (by kernel_rfl))) ?_
  intro W base args ds gs before hval0 hW hc _ hL _
  have hval : ∀ (j : Nat) t v, Tryd.f5.params[j]? = some t → args[j]? = some v → Value.okWide Tryd.prog W .any base t v := hval0
  have hW' := hW
  obtain ⟨p, q, hA0, hV, rfl, _, _⟩ := hW
  have hA : DataW.TrodAll enc Tryd.prog W 0 (fun _ => true) true Tryd.f5.params.toList args.toList ds p := hA0
  rw [Tryd.params5] at hA hval
  obtain ⟨v0, vs0, d0, ds0, p0, q0, hargs, rfl, rfl, h0, r0⟩ := trodAll_cons hA
  obtain ⟨rfl, rfl, rfl⟩ := trodAll_nil r0
  obtain rfl : args = #[v0] := by cases args; simp_all
  obtain ⟨rfl, rfl⟩ := trodVars_none hV
  obtain ⟨x0, rfl, _, _, wf0⟩ := open_int Tryd.underlying2 (hval 0 2 v0 rfl rfl) h0
  refine (law_calls (back_spec x0) (vs := #[.int .i64 x0]) rfl ?_ (back_glob hL)).mono fun e W' ⟨he, hb⟩ => ?_
  · intro i x v hx hv
    match i, hx, hv with
    | 0, hx, hv => simp at hx hv; subst hx hv; exact .pl _
    | i + 1, hx, hv => simp at hx
  · subst he
    exact ⟨_, rfl, law_post (L := [2]) (tb := 4) hW' rfl (by kernel_rfl) (by kernel_rfl) hb (by kernel_rfl) Tryd.underlying4 rfl⟩
theorem valueBack_row : Rows.ValueBackSaid :=
  OpenClaim.holds_of_wide 5 Tryd.f5 rfl rfl rfl rfl rfl rfl rfl ⟨rfl, rfl, rfl, rfl, rfl⟩ rfl rfl rfl rfl rfl (by kernel_rfl) Tryd.func5 (by kernel_rfl)
    (of_decide_eq_true (by kernel_rfl)) (by unfold Func.isWrapper; first | (rw [if_pos (by decide +kernel)]; kernel_rfl) | (rw [if_neg (by decide +kernel)]; exact ⟨rfl, rfl⟩))
    (fun os started H enc _ => valueBack_lifted os started H enc)
theorem valueBack : Rows.ValueBackCardSaid :=
  Claim7.holds_tied_plain_at .later [] [.data, .data, .data, .data, .pinned] true (true, "d6ec3dbc1989c09e7ca685bdc60f162a3b4aaf0eba76d087cdec209a7de03819") false valueBack_row (fun _ h => by cases h) (by kernel_rfl) (fun _ h => by cases h) valueBack_row_tie rfl ⟨rfl, rfl⟩ (by kernel_rfl) rfl
    (fun f fn hf hfn => by
      obtain rfl : f = 5 := Option.some.inj ((show Tryd.prog.funcNamed "apostille/apostillelaw16.ValueBack" = some 5 by kernel_rfl).symm.trans hf) |>.symm
      obtain rfl : fn = Tryd.f5 := (Option.some.inj (Tryd.func5.symm.trans hfn)).symm
      exact ⟨by kernel_rfl, fun j t ht => by
        rw [Tryd.params5] at ht
        have hm : t ∈ [2] := by simpa using Array.mem_of_getElem? ht
        have hall : ([2].all fun u => !Tryd.prog.wantsStandIn u) = true := by kernel_rfl
        exact (show Tryd.prog.wantsStandIn t = false by simpa using List.all_eq_true.1 hall t hm)⟩)
    (by kernel_rfl)
end Go.Proofs.YtebcdmfekidfoaaDoor
