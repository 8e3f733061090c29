/-
  ValueMakes: values are made as the document says, and are alike just if they are in all: for all points, number, text, truth. The package variables that the row lists are read nowhere on the way, or as they were laid. Conditions: none.
-/
import Derived.Test.YtebcdmfekidfoaaDoorRows
import Derived.Test.YtebcdmfekidfoaaDoorTie
import Derived.Test.YtebcdmfekidfoaaDoorCards
import Derived.Test.YtebcdmfekidfoaaDoorVWalk
import Derived.Test.YtebcdmfekidfoaaDoorVMakes
import Derived.Test.YtebcdmfekidfoaaDoorAbsLaw
import Derived.WalkKit
import Derived.ProofKit
import Derived.OpenShut
import Derived.LaidMore
import Derived.Lay
import Derived.SevenTiedAt
import Derived.Stop.Joined
namespace Go.Proofs.YtebcdmfekidfoaaDoor
open Go Go.Abs Go.ChangeShapes Go.WideShapes Go.ChangeAt Go.RowKit W G
set_option linter.unusedVariables false
theorem lawOwn : ownKnob Tryd.prog.godebug = none := by kernel_rfl
theorem bytes_back (s : ByteArray) : (⟨s.data.toList.toArray⟩ : ByteArray) = s := by cases s; simp
theorem rdPoint : Rd Tryd.prog 60 c_TPoint (fun _ => True) :=
  Rd.map (Rd.struct (k := 3) (fs := #[{ name := "N", type := 3, offset := 0, embedded := false, tag := "", pkgPath := "", byteOffset := 0 }, { name := "Part", type := 3, offset := 1, embedded := false, tag := "", pkgPath := "", byteOffset := 8 }, { name := "I", type := 3, offset := 2, embedded := false, tag := "", pkgPath := "", byteOffset := 16 }]) (by kernel_rfl) (by kernel_rfl)
    (RdF.cons (k := 1) (Rd.int (k := .i64) (by kernel_rfl) (by kernel_rfl)) rfl (by kernel_rfl) (RdF.cons (k := 1) (Rd.int (k := .i64) (by kernel_rfl) (by kernel_rfl)) rfl (by kernel_rfl) (RdF.cons (k := 1) (Rd.int (k := .i64) (by kernel_rfl) (by kernel_rfl)) rfl (by kernel_rfl) (RdF.nil _ _)))))
    (fun a => (⟨a.1, a.2.1, a.2.2.1⟩ : TPoint)) (fun k => (k.N, k.Part, k.I, ())) (fun a _ => ⟨rfl, trivial⟩) (fun b => rfl)
theorem rdPoints : Rd Tryd.prog 23 (fun l : List TPoint => [.vs l.length (F c_TPoint l)]) (fun _ => True) :=
  Rd.map (Rd.slice rdPoint (by kernel_rfl) (by kernel_rfl) (by rw [show Tryd.prog.cellsOf 60 = 3 by kernel_rfl]; decide)) id id (fun l _ => ⟨rfl, trivial⟩) (fun l => rfl)
theorem makes_spec (l : List TPoint) (n : Int) (s : ByteArray) (b : Bool) : PSpec Tryd.prog 4 [.vs l.length (F c_TPoint l), .pl (.int .i64 n), .pl (.string s), .pl (.bool b)] (.pl (.bool true)) := by
  have h := (apostillelaw16_ValueMakes_ok (G.ValueMakes_eq l n s.data.toList b)).p
  have e : S s.data.toList = AV.pl (.string s) := congrArg (fun b => AV.pl (.string b)) (bytes_back s)
  rw [e] at h
  exact h
set_option maxRecDepth 100000 in
theorem valueMakes_lifted (os : Os) (started : os.Started) (H : Type) (enc : TypeId × Value → H) :
    ReturnsInHanded {} Tryd.checked os 4 .any (fun w args => (Rows.valueMakesSpec.pre enc Tryd.prog Tryd.f4 Rows.valueMakesRow.domain false w args ∧ laidMetH Tryd.prog Rows.valueMakesRow.laid w) ∧ sizedMet enc Tryd.prog Tryd.f4 (OpenSpec.ofChange Rows.valueMakesSpec) false w args)
      (Rows.valueMakesSpec.post enc Tryd.prog Tryd.f4 false true false false) := by
  refine returnsInHanded_of_change_and (C := Tryd.checked) (X := fun w _ => laidMetH Tryd.prog Rows.valueMakesRow.laid w) (fun _ _ _ hh h => h.of_heap hh) lawOwn started (by kernel_rfl) Tryd.func4
    (ChangeSpec.witness_shaped (enc := enc) (C := Tryd.checked) (os := os) (X := fun w _ => laidMetH Tryd.prog Rows.valueMakesRow.laid w) false (World.laidAll Tryd.prog os Rows.valueMakesRow.laid) #[.slice none 0 0, .int .i64 0, .string ⟨#[]⟩, .bool false] 8 (World.laidAll_os _ _ _)
      (World.shaped_of_ZipB (by kernel_rfl) (by kernel_rfl)) (by kernel_rfl) (by kernel_rfl) (by kernel_rfl)
      (by rw [MakeChecks.laidMetH_plain _ _ _ (by kernel_rfl)]; exact laidMet_laidAll _ (by kernel_rfl) (by kernel_rfl))) ?_
  intro W base args ds gs before hval0 hW hc _ hL _
  have hval : ∀ (j : Nat) t v, Tryd.f4.params[j]? = some t → args[j]? = some v → Value.okWide Tryd.prog W .any base t v := hval0
  have hW' := hW
  obtain ⟨p, q, hA0, hV, rfl, _, _⟩ := hW
  have hA : DataW.TrodAll enc Tryd.prog W 0 (fun _ => true) true Tryd.f4.params.toList args.toList ds p := hA0
  rw [Tryd.params4] at hA hval
  obtain ⟨v0, vs0, d0, ds0, p0, q0, hargs, rfl, rfl, h0, r0⟩ := trodAll_cons hA
  obtain ⟨v1, vs1, d1, ds1, p1, q1, rfl, rfl, rfl, h1, r1⟩ := trodAll_cons r0
  obtain ⟨v2, vs2, d2, ds2, p2, q2, rfl, rfl, rfl, h2, r2⟩ := trodAll_cons r1
  obtain ⟨v3, vs3, d3, ds3, p3, q3, rfl, rfl, rfl, h3, r3⟩ := trodAll_cons r2
  obtain ⟨rfl, rfl, rfl⟩ := trodAll_nil r3
  obtain rfl : args = #[v0, v1, v2, v3] := by cases args; simp_all
  obtain ⟨rfl, rfl⟩ := trodVars_none hV
  obtain ⟨x0, _, hk0⟩ := rdPoints.one (fun l : List TPoint => .vs l.length (F c_TPoint l)) (fun _ => rfl) (by rw [Tryd.underlying23]) (hval 0 23 v0 rfl rfl) h0
  obtain ⟨x1, rfl, _, _, wf1⟩ := open_int Tryd.underlying2 (hval 1 2 v1 rfl rfl) h1
  obtain ⟨x2, rfl, _, _, _⟩ := ChangeMaps.open_string Tryd.underlying9 (hval 2 9 v2 rfl rfl) h2
  obtain ⟨x3, rfl, _, _⟩ := open_bool Tryd.underlying4 (hval 3 4 v3 rfl rfl) h3
  refine (law_calls (makes_spec x0 x1 x2 x3) (vs := #[v0, .int .i64 x1, .string x2, .bool x3]) rfl ?_).mono fun e W' ⟨he, hb⟩ => ?_
  · intro i x v hx hv
    match i, hx, hv with
    | 0, hx, hv => simp at hx hv; subst hx hv; exact hk0
    | 1, hx, hv => simp at hx hv; subst hx hv; exact .pl _
    | 2, hx, hv => simp at hx hv; subst hx hv; exact .pl _
    | 3, hx, hv => simp at hx hv; subst hx hv; exact .pl _
    | i + 4, hx, hv => simp at hx
  · subst he
    exact ⟨_, rfl, law_post (L := [23, 60, 3, 2, 9, 4]) (tb := 4) hW' rfl (by kernel_rfl) (by kernel_rfl) hb (by kernel_rfl) Tryd.underlying4 rfl⟩
theorem valueMakes_row : Rows.ValueMakesSaid :=
  OpenClaim.holds_of_wide 4 Tryd.f4 rfl rfl rfl rfl rfl rfl rfl ⟨rfl, rfl, rfl, rfl, rfl⟩ rfl rfl rfl rfl rfl (by kernel_rfl) Tryd.func4 (by kernel_rfl)
    (of_decide_eq_true (by kernel_rfl)) (by unfold Func.isWrapper; first | (rw [if_pos (by decide +kernel)]; kernel_rfl) | (rw [if_neg (by decide +kernel)]; exact ⟨rfl, rfl⟩))
    (fun os started H enc _ => valueMakes_lifted os started H enc)
theorem valueMakes : Rows.ValueMakesCardSaid :=
  Claim7.holds_tied_plain_at .later [] [.data, .pinned] true (true, "d6ec3dbc1989c09e7ca685bdc60f162a3b4aaf0eba76d087cdec209a7de03819") false valueMakes_row (fun _ h => by cases h) (by kernel_rfl) (fun _ h => by cases h) valueMakes_row_tie rfl ⟨rfl, rfl⟩ (by kernel_rfl) rfl
    (fun f fn hf hfn => by
      obtain rfl : f = 4 := Option.some.inj ((show Tryd.prog.funcNamed "apostille/apostillelaw16.ValueMakes" = some 4 by kernel_rfl).symm.trans hf) |>.symm
      obtain rfl : fn = Tryd.f4 := (Option.some.inj (Tryd.func4.symm.trans hfn)).symm
      exact ⟨by kernel_rfl, fun j t ht => by
        rw [Tryd.params4] at ht
        have hm : t ∈ [23, 2, 9, 4] := by simpa using Array.mem_of_getElem? ht
        have hall : ([23, 2, 9, 4].all fun u => !Tryd.prog.wantsStandIn u) = true := by kernel_rfl
        exact (show Tryd.prog.wantsStandIn t = false by simpa using List.all_eq_true.1 hall t hm)⟩)
    (by kernel_rfl)
end Go.Proofs.YtebcdmfekidfoaaDoor
