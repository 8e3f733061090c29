import Derived.Test.YtebcdmfekidfoaaRows
import Derived.Test.YtebcdmfekidfoaaPolLaw
import Derived.Test.YtebcdmfekidfoaaAbsLaw
import Derived.WalkKit
import Derived.ProofKit
import Derived.OpenShut
namespace Go.Proofs.Ytebcdmfekidfoaa
open Go Go.Abs Go.ChangeShapes Go.WideShapes Go.ChangeAt Go.RowKit
set_option linter.unusedVariables false

theorem flat_one {α : Type} (f : α → AV) : ∀ l : List α, l.flatMap (fun b => [f b]) = l.map f
  | [] => rfl
  | b :: r => by rw [List.flatMap_cons, flat_one f r]; rfl
theorem rdBytes : Rd Try.prog 25 (fun l : List UInt8 => [.vs l.length (encB l)]) (fun _ => True) :=
  Rd.map (Rd.slice (Rd.byte (by kernel_rfl) (by kernel_rfl)) (by kernel_rfl) (by kernel_rfl) (by rw [show Try.prog.cellsOf 5 = 1 by kernel_rfl]; exact Nat.one_pos)) id id (fun l _ => ⟨by simp only [id, flat_one]; rfl, trivial⟩) (fun l => by simp only [id, flat_one]; rfl)
theorem rdKey : Rd Try.prog 27 encKey (fun _ => True) :=
  Rd.map (Rd.struct (k := 2) (fs := #[{ name := "Name", type := 9, offset := 0, embedded := false, tag := "", pkgPath := "", byteOffset := 0 }, { name := "Bytes", type := 25, offset := 1, embedded := false, tag := "", pkgPath := "", byteOffset := 16 }]) (by kernel_rfl) (by kernel_rfl)
    (RdF.cons (k := 1) (Rd.string (by kernel_rfl) (by kernel_rfl)) rfl (by kernel_rfl) (RdF.cons (k := 1) rdBytes rfl (by kernel_rfl) (RdF.nil _ _)))) (fun a => (⟨a.1, a.2.1⟩ : Key)) (fun k => (k.name, k.bytes, ())) (fun a _ => ⟨rfl, trivial⟩) (fun b => rfl)
theorem rdKeys : Rd Try.prog 22 (fun l : List Key => [.vs l.length (l.flatMap encKey)]) (fun _ => True) :=
  Rd.map (Rd.slice rdKey (by kernel_rfl) (by kernel_rfl) (by rw [show Try.prog.cellsOf 27 = 2 by kernel_rfl]; decide)) id id (fun l _ => ⟨rfl, trivial⟩) (fun l => rfl)

theorem f3_spec (ks : List Key) (name : ByteArray) : PSpec Try.prog 3 [.vs ks.length (ks.flatMap encKey), .pl (.string name)] (.pl (.bool true)) := by
  rcases Nat.lt_or_ge 20 ks.length with h | h
  · exact f3_big ks name h
  · exact f3_small ks name h

theorem polOwn : ownKnob Try.prog.godebug = none := by kernel_rfl
set_option maxRecDepth 100000 in
theorem finds_lifted (os : Os) (started : os.Started) (H : Type) (enc : TypeId × Value → H) :
    ReturnsInHanded {} Try.checked os 3 .any (Rows.policyFindsSpec.pre6 enc Try.prog Try.f3 Rows.policyFindsRow.domain false) (Rows.policyFindsSpec.post enc Try.prog Try.f3 false true false false) := by
  refine returnsInHanded_of_change (C := Try.checked) polOwn started (by kernel_rfl) Try.func3
    (ChangeSpec.witness6 (enc := enc) (C := Try.checked) false ⟨#[], #[.slice none 0 0, .string ⟨#[]⟩], []⟩ 8 (by kernel_rfl) (by kernel_rfl) (by kernel_rfl) (by kernel_rfl)) ?_
  intro W base args ds gs before hval0 hW hcnd _
  have hval : ∀ (j : Nat) t v, Try.f3.params[j]? = some t → args[j]? = some v → Value.okWide Try.prog W .any base t v := hval0
  have hW' := hW
  obtain ⟨p, q, hA0, hV, rfl, hfz, hnd⟩ := hW
  have hA : DataW.TrodAll enc Try.prog W 0 (fun _ => true) true Try.f3.params.toList args.toList ds p := hA0
  rw [Try.params3] at hA hval
  obtain ⟨v0, vs0, d0, ds0, p0, q0, hargs, rfl, rfl, h0, r0⟩ := trodAll_cons hA
  obtain ⟨v1, vs1, d1, ds1, p1, q1, rfl, rfl, rfl, h1, r1⟩ := trodAll_cons r0
  obtain ⟨rfl, rfl, rfl⟩ := trodAll_nil r1
  obtain rfl : args = #[v0, v1] := by cases args; simp_all
  obtain ⟨rfl, rfl⟩ := trodVars_none hV
  obtain ⟨ks, _, hk⟩ := rdKeys.one (fun l : List Key => .vs l.length (l.flatMap encKey)) (fun _ => rfl) (by rw [Try.underlying22]) (hval 0 22 v0 rfl rfl) h0
  obtain ⟨name, rfl, _, _, _⟩ := ChangeMaps.open_string Try.underlying9 (hval 1 9 v1 rfl rfl) h1
  refine (law_calls (f3_spec ks name) (vs := #[v0, .string name]) rfl ?_).mono fun e W' ⟨he, hb⟩ => ?_
  · intro i x v hx hv
    match i, hx, hv with
    | 0, hx, hv => simp at hx hv; subst hx hv; exact hk
    | 1, hx, hv => simp at hx hv; subst hx hv; exact .pl _
    | i + 2, hx, hv => simp at hx
  · subst he
    exact ⟨_, rfl, law_post (L := [22, 27, 9, 25, 5]) (tb := 4) hW' rfl (by kernel_rfl) (by kernel_rfl) hb (by kernel_rfl) Try.underlying4 rfl⟩

theorem policyFinds : Rows.PolicyFindsSaid :=
  OpenClaim.holds_of_wide 3 Try.f3 rfl rfl rfl rfl rfl rfl rfl ⟨rfl, rfl, rfl, rfl, rfl⟩ rfl rfl rfl rfl rfl (by kernel_rfl) Try.func3 (by kernel_rfl)
    (of_decide_eq_true (by kernel_rfl)) (by unfold Func.isWrapper; first | (rw [if_pos (by decide +kernel)]; kernel_rfl) | (rw [if_neg (by decide +kernel)]; exact ⟨rfl, rfl⟩))
    (fun os started H enc _ => finds_lifted os started H enc)
end Go.Proofs.Ytebcdmfekidfoaa
