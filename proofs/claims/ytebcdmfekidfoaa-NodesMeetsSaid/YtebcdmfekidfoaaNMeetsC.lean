/-
  NodesMeets: what is in one of two lists, in both, in the first one alone, is what the document says: for all two lists. Conditions: none.
-/
import Derived.Test.YtebcdmfekidfoaaNRead
import Derived.WalkKit
import Derived.ProofKit
import Derived.OpenShut
namespace Go.Proofs.Ytebcdmfekidfoaa
open Go Go.Abs Go.ChangeShapes Go.WideShapes Go.ChangeAt Go.RowKit W G
set_option linter.unusedVariables false
set_option maxRecDepth 100000 in
theorem nodesMeets0_lifted (os : Os) (started : os.Started) (H : Type) (enc : TypeId × Value → H) :
    ReturnsInHanded {} Try.checked os 7 .any (Rows.nodesMeetsSpec.pre6 enc Try.prog Try.f7 Rows.nodesMeetsRow.domain false) (Rows.nodesMeetsSpec.post enc Try.prog Try.f7 false true false false) := by
  refine returnsInHanded_of_change (C := Try.checked) lawOwn started (by kernel_rfl) Try.func7
    (ChangeSpec.witness6 (enc := enc) (C := Try.checked) false ⟨#[], #[.slice none 0 0, .slice none 0 0], []⟩ 8 (by kernel_rfl) (by kernel_rfl) (by kernel_rfl) (by kernel_rfl)) ?_
  intro W base args ds gs before hval0 hW hcnd _
  have hval : ∀ (j : Nat) t v, Try.f7.params[j]? = some t → args[j]? = some v → Value.okWide Try.prog W .any base t v := hval0
  have hW' := hW
  obtain ⟨p, q, hA0, hV, rfl, hfz, hnd⟩ := hW
  have hA : DataW.TrodAll enc Try.prog W 0 (fun _ => true) true Try.f7.params.toList args.toList ds p := hA0
  rw [Try.params7] at hA hval
  obtain ⟨v0, vs0, d0, ds0, p0, q0, hargs, rfl, rfl, h0, r0⟩ := trodAll_cons hA
  obtain ⟨v1, vs1, d1, ds1, p1, q1, rfl, rfl, rfl, h1, r1⟩ := trodAll_cons r0
  obtain ⟨rfl, rfl, rfl⟩ := trodAll_nil r1
  obtain rfl : args = #[v0, v1] := by cases args; simp_all
  obtain ⟨rfl, rfl⟩ := trodVars_none hV
  obtain ⟨x0, _, hk0⟩ := rdPoints.one (fun l : List TPoint => .vs l.length (F c_TPoint l)) (fun _ => rfl) (by rw [Try.underlying60]) (hval 0 60 v0 rfl rfl) h0
  obtain ⟨x1, _, hk1⟩ := rdPoints.one (fun l : List TPoint => .vs l.length (F c_TPoint l)) (fun _ => rfl) (by rw [Try.underlying60]) (hval 1 60 v1 rfl rfl) h1
  refine (law_calls ((apostillelaw11_NodesMeets_ok (G.meets_true x0 x1)).p) (vs := #[v0, v1]) rfl ?_).mono fun e W' ⟨he, hb⟩ => ?_
  · intro i x v hx hv
    match i, hx, hv with
    | 0, hx, hv => simp at hx hv; subst hx hv; exact hk0
    | 1, hx, hv => simp at hx hv; subst hx hv; exact hk1
    | i + 2, hx, hv => simp at hx
  · subst he
    exact ⟨_, rfl, law_post (L := [60, 62, 3]) (tb := 4) hW' rfl (by kernel_rfl) (by kernel_rfl) hb (by kernel_rfl) Try.underlying4 rfl⟩
theorem nodesMeets : Rows.NodesMeetsSaid :=
  OpenClaim.holds_of_wide 7 Try.f7 rfl rfl rfl rfl rfl rfl rfl ⟨rfl, rfl, rfl, rfl, rfl⟩ rfl rfl rfl rfl rfl (by kernel_rfl) Try.func7 (by kernel_rfl)
    (of_decide_eq_true (by kernel_rfl)) (by unfold Func.isWrapper; first | (rw [if_pos (by decide +kernel)]; kernel_rfl) | (rw [if_neg (by decide +kernel)]; exact ⟨rfl, rfl⟩))
    (fun os started H enc _ => nodesMeets0_lifted os started H enc)
end Go.Proofs.Ytebcdmfekidfoaa
