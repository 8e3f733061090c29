import Derived.Test.YtebcdmfekidfoaaRows
import Derived.Test.YtebcdmfekidfoaaPolMore
import Derived.Test.YtebcdmfekidfoaaAbsLaw
import Derived.WalkKit
import Derived.ProofKit
import Derived.OpenShut
namespace Go.Proofs.Ytebcdmfekidfoaa
open Go Go.Abs Go.ChangeShapes Go.WideShapes Go.ChangeAt Go.RowKit
set_option linter.unusedVariables false

theorem rdStrs : Rd Try.prog 34 (fun l : List ByteArray => [.vs l.length (l.flatMap encS)]) (fun _ => True) :=
  Rd.map (Rd.slice (Rd.string (by kernel_rfl) (by kernel_rfl)) (by kernel_rfl) (by kernel_rfl) (by rw [show Try.prog.cellsOf 9 = 1 by kernel_rfl]; exact Nat.one_pos)) id id (fun l _ => ⟨rfl, trivial⟩) (fun l => rfl)

theorem moreOwn : ownKnob Try.prog.godebug = none := by kernel_rfl
set_option maxRecDepth 100000 in
theorem more_lifted (os : Os) (started : os.Started) (H : Type) (enc : TypeId × Value → H) :
    ReturnsInHanded {} Try.checked os 5 .any (Rows.policyMoreSpec.pre6 enc Try.prog Try.f5 Rows.policyMoreRow.domain false) (Rows.policyMoreSpec.post enc Try.prog Try.f5 false true false false) := by
  refine returnsInHanded_of_change (C := Try.checked) moreOwn started (by kernel_rfl) Try.func5
    (ChangeSpec.witness6 (enc := enc) (C := Try.checked) false ⟨#[], #[.slice none 0 0, .int .u8 0], []⟩ 8 (by kernel_rfl) (by kernel_rfl) (by kernel_rfl) (by kernel_rfl)) ?_
  intro W base args ds gs before hval0 hW hcnd _
  have hval : ∀ (j : Nat) t v, Try.f5.params[j]? = some t → args[j]? = some v → Value.okWide Try.prog W .any base t v := hval0
  have hW' := hW
  obtain ⟨p, q, hA0, hV, rfl, hfz, hnd⟩ := hW
  have hA : DataW.TrodAll enc Try.prog W 0 (fun _ => true) true Try.f5.params.toList args.toList ds p := hA0
  rw [Try.params5] at hA hval
  obtain ⟨v0, vs0, d0, ds0, p0, q0, hargs, rfl, rfl, h0, r0⟩ := trodAll_cons hA
  obtain ⟨v1, vs1, d1, ds1, p1, q1, rfl, rfl, rfl, h1, r1⟩ := trodAll_cons r0
  obtain ⟨rfl, rfl, rfl⟩ := trodAll_nil r1
  obtain rfl : args = #[v0, v1] := by cases args; simp_all
  obtain ⟨rfl, rfl⟩ := trodVars_none hV
  obtain ⟨us, _, hk⟩ := rdStrs.one (fun l : List ByteArray => .vs l.length (l.flatMap encS)) (fun _ => rfl) (by rw [Try.underlying34]) (hval 0 34 v0 rfl rfl) h0
  obtain ⟨r, rfl, _, _, wr⟩ := open_int Try.underlying5 (hval 1 5 v1 rfl rfl) h1
  have hr : 0 ≤ r ∧ r < 256 := by
    have : 0 ≤ r ∧ r ≤ 255 := by simpa [Lit.wf, IntKind.min, IntKind.max, IntKind.signed, IntKind.bits] using wr
    omega
  refine (law_calls (f5_spec us r hr) (vs := #[v0, .int .u8 r]) rfl ?_).mono fun e W' ⟨he, hb⟩ => ?_
  · intro i x v hx hv
    match i, hx, hv with
    | 0, hx, hv => simp at hx hv; subst hx hv; exact hk
    | 1, hx, hv => simp at hx hv; subst hx hv; exact .pl _
    | i + 2, hx, hv => simp at hx
  · subst he
    exact ⟨_, rfl, law_post (L := [34, 9, 5]) (tb := 4) hW' rfl (by kernel_rfl) (by kernel_rfl) hb (by kernel_rfl) Try.underlying4 rfl⟩

theorem policyMore : Rows.PolicyMoreSaid :=
  OpenClaim.holds_of_wide 5 Try.f5 rfl rfl rfl rfl rfl rfl rfl ⟨rfl, rfl, rfl, rfl, rfl⟩ rfl rfl rfl rfl rfl (by kernel_rfl) Try.func5 (by kernel_rfl)
    (of_decide_eq_true (by kernel_rfl)) (by unfold Func.isWrapper; first | (rw [if_pos (by decide +kernel)]; kernel_rfl) | (rw [if_neg (by decide +kernel)]; exact ⟨rfl, rfl⟩))
    (fun os started H enc _ => more_lifted os started H enc)
end Go.Proofs.Ytebcdmfekidfoaa
