/-
  NodesLaws: of three lists it makes no difference which two come first; what is in one and in one of two others is in one of both: for all three lists. Conditions: none.
-/
import Derived.Test.YtebcdmfekidfoaaNRead
import Derived.WalkKit
import Derived.ProofKit
import Derived.OpenShut
namespace Go.Proofs.Ytebcdmfekidfoaa
open Go Go.Abs Go.ChangeShapes Go.WideShapes Go.ChangeAt Go.RowKit W G
set_option linter.unusedVariables false
set_option maxRecDepth 100000 in
theorem nodesLaws0_lifted (os : Os) (started : os.Started) (H : Type) (enc : TypeId × Value → H) :
    ReturnsInHanded {} Try.checked os 8 .any (Rows.nodesLawsSpec.pre6 enc Try.prog Try.f8 Rows.nodesLawsRow.domain false) (Rows.nodesLawsSpec.post enc Try.prog Try.f8 false true false false) := by
  refine returnsInHanded_of_change (C := Try.checked) lawOwn started (by kernel_rfl) Try.func8
    (ChangeSpec.witness6 (enc := enc) (C := Try.checked) false ⟨#[], #[.slice none 0 0, .slice none 0 0, .slice none 0 0], []⟩ 8 (by kernel_rfl) (by kernel_rfl) (by kernel_rfl) (by kernel_rfl)) ?_
  intro W base args ds gs before hval0 hW hcnd _
  have hval : ∀ (j : Nat) t v, Try.f8.params[j]? = some t → args[j]? = some v → Value.okWide Try.prog W .any base t v := hval0
  have hW' := hW
  obtain ⟨p, q, hA0, hV, rfl, hfz, hnd⟩ := hW
  have hA : DataW.TrodAll enc Try.prog W 0 (fun _ => true) true Try.f8.params.toList args.toList ds p := hA0
  rw [Try.params8] at hA hval
  obtain ⟨v0, vs0, d0, ds0, p0, q0, hargs, rfl, rfl, h0, r0⟩ := trodAll_cons hA
  obtain ⟨v1, vs1, d1, ds1, p1, q1, rfl, rfl, rfl, h1, r1⟩ := trodAll_cons r0
  obtain ⟨v2, vs2, d2, ds2, p2, q2, rfl, rfl, rfl, h2, r2⟩ := trodAll_cons r1
  obtain ⟨rfl, rfl, rfl⟩ := trodAll_nil r2
  obtain rfl : args = #[v0, v1, v2] := by cases args; simp_all
  obtain ⟨rfl, rfl⟩ := trodVars_none hV
  obtain ⟨x0, _, hk0⟩ := rdPoints.one (fun l : List TPoint => .vs l.length (F c_TPoint l)) (fun _ => rfl) (by rw [Try.underlying60]) (hval 0 60 v0 rfl rfl) h0
  obtain ⟨x1, _, hk1⟩ := rdPoints.one (fun l : List TPoint => .vs l.length (F c_TPoint l)) (fun _ => rfl) (by rw [Try.underlying60]) (hval 1 60 v1 rfl rfl) h1
  obtain ⟨x2, _, hk2⟩ := rdPoints.one (fun l : List TPoint => .vs l.length (F c_TPoint l)) (fun _ => rfl) (by rw [Try.underlying60]) (hval 2 60 v2 rfl rfl) h2
  refine (law_calls ((apostillelaw11_NodesLaws_ok (G.laws_true x0 x1 x2)).p) (vs := #[v0, v1, v2]) rfl ?_).mono fun e W' ⟨he, hb⟩ => ?_
  · intro i x v hx hv
    match i, hx, hv with
    | 0, hx, hv => simp at hx hv; subst hx hv; exact hk0
    | 1, hx, hv => simp at hx hv; subst hx hv; exact hk1
    | 2, hx, hv => simp at hx hv; subst hx hv; exact hk2
    | i + 3, hx, hv => simp at hx
  · subst he
    exact ⟨_, rfl, law_post (L := [60, 62, 3]) (tb := 4) hW' rfl (by kernel_rfl) (by kernel_rfl) hb (by kernel_rfl) Try.underlying4 rfl⟩
theorem nodesLaws : Rows.NodesLawsSaid :=
  OpenClaim.holds_of_wide 8 Try.f8 rfl rfl rfl rfl rfl rfl rfl ⟨rfl, rfl, rfl, rfl, rfl⟩ rfl rfl rfl rfl rfl (by kernel_rfl) Try.func8 (by kernel_rfl)
    (of_decide_eq_true (by kernel_rfl)) (by unfold Func.isWrapper; first | (rw [if_pos (by decide +kernel)]; kernel_rfl) | (rw [if_neg (by decide +kernel)]; exact ⟨rfl, rfl⟩))
    (fun os started H enc _ => nodesLaws0_lifted os started H enc)
end Go.Proofs.Ytebcdmfekidfoaa
