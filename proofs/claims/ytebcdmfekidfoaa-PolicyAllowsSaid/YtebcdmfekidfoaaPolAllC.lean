import Derived.Test.YtebcdmfekidfoaaRows
import Derived.Test.YtebcdmfekidfoaaPolAll
import Derived.Test.YtebcdmfekidfoaaAbsLaw
import Derived.WalkKit
import Derived.ProofKit
import Derived.OpenShut
namespace Go.Proofs.Ytebcdmfekidfoaa
open Go Go.Abs Go.ChangeShapes Go.WideShapes Go.ChangeAt Go.RowKit
set_option linter.unusedVariables false

theorem rdStrs : Rd Try.prog 34 (fun l : List ByteArray => [.vs l.length (l.flatMap encS)]) (fun _ => True) :=
  Rd.map (Rd.slice (Rd.string (by kernel_rfl) (by kernel_rfl)) (by kernel_rfl) (by kernel_rfl) (by rw [show Try.prog.cellsOf 9 = 1 by kernel_rfl]; exact Nat.one_pos)) id id (fun l _ => ⟨rfl, trivial⟩) (fun l => rfl)

theorem rdPol : Rd Try.prog 36 (fun a : Int × Int × List ByteArray => encPol a.1 a.2.1 a.2.2) (fun _ => True) :=
  Rd.map (Rd.struct (k := 3) (fs := #[{ name := "Fuel", type := 3, offset := 0, embedded := false, tag := "", pkgPath := "", byteOffset := 0 }, { name := "Refs", type := 3, offset := 1, embedded := false, tag := "", pkgPath := "", byteOffset := 8 }, { name := "Need", type := 34, offset := 2, embedded := false, tag := "", pkgPath := "", byteOffset := 16 }]) (by kernel_rfl) (by kernel_rfl)
    (RdF.cons (k := 1) (Rd.int (k := .i64) (by kernel_rfl) (by kernel_rfl)) rfl (by kernel_rfl) (RdF.cons (k := 1) (Rd.int (k := .i64) (by kernel_rfl) (by kernel_rfl)) rfl (by kernel_rfl) (RdF.cons (k := 1) rdStrs rfl (by kernel_rfl) (RdF.nil _ _))))) (fun a => (a.1, a.2.1, a.2.2.1)) (fun b => (b.1, b.2.1, b.2.2, ())) (fun a _ => ⟨rfl, trivial⟩) (fun b => rfl)

theorem allowsOwn : ownKnob Try.prog.godebug = none := by kernel_rfl
set_option maxRecDepth 100000 in
theorem allows_lifted (os : Os) (started : os.Started) (H : Type) (enc : TypeId × Value → H) :
    ReturnsInHanded {} Try.checked os 4 .any (Rows.policyAllowsSpec.pre6 enc Try.prog Try.f4 Rows.policyAllowsRow.domain false) (Rows.policyAllowsSpec.post enc Try.prog Try.f4 false true false false) := by
  refine returnsInHanded_of_change (C := Try.checked) allowsOwn started (by kernel_rfl) Try.func4
    (ChangeSpec.witness6 (enc := enc) (C := Try.checked) false ⟨#[], #[.agg #[.int .i64 0, .int .i64 0, .slice none 0 0], .slice none 0 0], []⟩ 8 (by kernel_rfl) (by kernel_rfl) (by kernel_rfl) (by kernel_rfl)) ?_
  intro W base args ds gs before hval0 hW hcnd _
  have hval : ∀ (j : Nat) t v, Try.f4.params[j]? = some t → args[j]? = some v → Value.okWide Try.prog W .any base t v := hval0
  have hW' := hW
  obtain ⟨p, q, hA0, hV, rfl, hfz, hnd⟩ := hW
  have hA : DataW.TrodAll enc Try.prog W 0 (fun _ => true) true Try.f4.params.toList args.toList ds p := hA0
  rw [Try.params4] at hA hval
  obtain ⟨v0, vs0, d0, ds0, p0, q0, hargs, rfl, rfl, h0, r0⟩ := trodAll_cons hA
  obtain ⟨v1, vs1, d1, ds1, p1, q1, rfl, rfl, rfl, h1, r1⟩ := trodAll_cons r0
  obtain ⟨rfl, rfl, rfl⟩ := trodAll_nil r1
  obtain rfl : args = #[v0, v1] := by cases args; simp_all
  obtain ⟨rfl, rfl⟩ := trodVars_none hV
  obtain ⟨⟨fuel, refs, need⟩, _, hp⟩ := rdPol.agg Try.underlying36 (hval 0 36 v0 rfl rfl) h0
  obtain ⟨us, _, hk⟩ := rdStrs.one (fun l : List ByteArray => .vs l.length (l.flatMap encS)) (fun _ => rfl) (by rw [Try.underlying34]) (hval 1 34 v1 rfl rfl) h1
  refine (law_calls (f4_spec fuel refs need us) (vs := #[v0, v1]) rfl ?_).mono fun e W' ⟨he, hb⟩ => ?_
  · intro i x v hx hv
    match i, hx, hv with
    | 0, hx, hv => simp at hx hv; subst hx hv; exact hp
    | 1, hx, hv => simp at hx hv; subst hx hv; exact hk
    | i + 2, hx, hv => simp at hx
  · subst he
    exact ⟨_, rfl, law_post (L := [36, 34, 3, 9]) (tb := 4) hW' rfl (by kernel_rfl) (by kernel_rfl) hb (by kernel_rfl) Try.underlying4 rfl⟩

theorem policyAllows : Rows.PolicyAllowsSaid :=
  OpenClaim.holds_of_wide 4 Try.f4 rfl rfl rfl rfl rfl rfl rfl ⟨rfl, rfl, rfl, rfl, rfl⟩ rfl rfl rfl rfl rfl (by kernel_rfl) Try.func4 (by kernel_rfl)
    (of_decide_eq_true (by kernel_rfl)) (by unfold Func.isWrapper; first | (rw [if_pos (by decide +kernel)]; kernel_rfl) | (rw [if_neg (by decide +kernel)]; exact ⟨rfl, rfl⟩))
    (fun os started H enc _ => allows_lifted os started H enc)
end Go.Proofs.Ytebcdmfekidfoaa
