/-
  SpaceSorts: declarations in order are what the document says; the list stays: for all lists. The package variables that the row lists are read nowhere on the way, or as they were laid. Conditions: none.
-/
import Derived.Test.YtipbfnjpfmmkfaaGreatDoorRows
import Derived.Test.YtipbfnjpfmmkfaaGreatDoorTie
import Derived.Test.YtipbfnjpfmmkfaaGreatDoorCards
import Derived.Test.YtipbfnjpfmmkfaaGreatDoorOWalk
import Derived.Test.YtipbfnjpfmmkfaaGreatDoorOSorts
import Derived.Test.YtipbfnjpfmmkfaaGreatDoorAbsM4
import Derived.MakeChecks
import Derived.WalkKit
import Derived.ProofKit
import Derived.OpenShut
import Derived.LaidMore
import Derived.Lay
import Derived.SevenTiedAt
import Derived.Stop.Joined
namespace Go.Proofs.YtipbfnjpfmmkfaaGreatDoor
open Go Go.Abs Go.ChangeShapes Go.WideShapes Go.ChangeAt Go.RowKit W G
set_option linter.unusedVariables false
set_option linter.unusedSimpArgs false
theorem lawOwn : ownKnob Tryz.prog.godebug = none := by kernel_rfl
theorem bytes_back (s : ByteArray) : (⟨s.data.toList.toArray⟩ : ByteArray) = s := by cases s; simp
theorem S_back (s : ByteArray) : S s.data.toList = AV.pl (.string s) := congrArg (fun b => AV.pl (.string b)) (bytes_back s)
theorem rdDecl : Rd Tryz.prog 68 c_TDecl (fun _ => True) :=
  Rd.map (Rd.struct (k := 2) (fs := #[{ name := "Prefix", type := 9, offset := 0, embedded := false, tag := "", pkgPath := "", byteOffset := 0 }, { name := "URI", type := 9, offset := 1, embedded := false, tag := "", pkgPath := "", byteOffset := 16 }]) (by kernel_rfl) (by kernel_rfl)
    (RdF.cons (k := 1) (Rd.string (by kernel_rfl) (by kernel_rfl)) rfl (by kernel_rfl) (RdF.cons (k := 1) (Rd.string (by kernel_rfl) (by kernel_rfl)) rfl (by kernel_rfl) (RdF.nil _ _))))
    (fun a => (⟨a.1.data.toList, a.2.1.data.toList⟩ : TDecl)) (fun k => (⟨k.Prefix.toArray⟩, ⟨k.URI.toArray⟩, ())) (fun a _ => ⟨by show [S a.1.data.toList, S a.2.1.data.toList] = _; rw [S_back, S_back]; rfl, trivial⟩) (fun b => rfl)
theorem rdDecls : Rd Tryz.prog 22 (fun l : List TDecl => [.vs l.length (F c_TDecl l)]) (fun _ => True) :=
  Rd.map (Rd.slice rdDecl (by kernel_rfl) (by kernel_rfl) (by rw [show Tryz.prog.cellsOf 68 = 2 by kernel_rfl]; decide)) id id (fun l _ => ⟨rfl, trivial⟩) (fun l => rfl)
theorem spaceSorts_glob {W : World} (h : laidMetH Tryz.prog Rows.spaceSortsRow.laid W) (hS : W.ShapedOpen Tryz.prog) : GOk (fun _ => False) W := by
  rw [MakeChecks.laidMetH_plain _ _ _ (by kernel_rfl)] at h
  refine gok_of (P := Tryz.prog) (fun g cs hg => ?_) (fun g hg => ?_)
  · have hg : (g, cs) ∈ [(0, (utf8First.flatMap (fun x : UInt8 => [Value.int .u8 (x.toNat : Int)]))), (1, (utf8Ranges.flatMap (fun x : TAcceptRange => [Value.int .u8 (x.lo.toNat : Int), Value.int .u8 (x.hi.toNat : Int)])))] := hg
    simp only [List.mem_cons, List.mem_nil_iff, or_false, Prod.mk.injEq] at hg
    rcases hg with ⟨rfl, rfl⟩ | ⟨rfl, rfl⟩
    · refine ⟨⟨"unicode/utf8.first", by kernel_rfl, ?_⟩, List.all_eq_true.1 (by kernel_rfl)⟩
      rw [show (utf8First.flatMap (fun x : UInt8 => [Value.int .u8 (x.toNat : Int)])) = (utf8First.map fun x => (x.toNat : Int)).map (fun z => Value.int .u8 z) by kernel_rfl]
      exact Go.Abs.var_ints (g := 0) (n := 256) (t := 207) (e := 5) (Go.Lib.laidMet.reads h (n := "unicode/utf8.first") (List.mem_of_getElem? (i := 1) rfl)) (by kernel_rfl) (by kernel_rfl) (by kernel_rfl) (by kernel_rfl) (by kernel_rfl) (by kernel_rfl) (by kernel_rfl)
    · refine ⟨⟨"unicode/utf8.acceptRanges", by kernel_rfl, ?_⟩, List.all_eq_true.1 (by kernel_rfl)⟩
      rw [show (utf8Ranges.flatMap (fun x : TAcceptRange => [Value.int .u8 (x.lo.toNat : Int), Value.int .u8 (x.hi.toNat : Int)])) = (utf8Ranges.map fun x => [(x.lo.toNat : Int), (x.hi.toNat : Int)]).flatMap fun zs => zs.map fun z => Value.int .u8 z by kernel_rfl]
      exact Go.Abs.var_structs (g := 1) (n := 16) (m := 2) (t := 210) (e := 209) (fs := #[{ name := "lo", type := 5, offset := 0, embedded := false, tag := "", pkgPath := "unicode/utf8", byteOffset := 0 }, { name := "hi", type := 5, offset := 1, embedded := false, tag := "", pkgPath := "unicode/utf8", byteOffset := 1 }]) (Go.Lib.laidMet.reads h (n := "unicode/utf8.acceptRanges") (List.mem_of_getElem? (i := 0) rfl)) (by kernel_rfl) (by kernel_rfl) (by kernel_rfl) (by kernel_rfl) (by kernel_rfl) (by kernel_rfl) (by kernel_rfl) (by rfl) (fun j f hj => by
        match j, hj with
        | 0, hj => simp at hj; subst hj; exact ⟨by kernel_rfl, rfl, by kernel_rfl⟩
        | 1, hj => simp at hj; subst hj; exact ⟨by kernel_rfl, rfl, by kernel_rfl⟩
        | j + 2, hj => simp at hj) (fun zs hz => by obtain ⟨x, _, rfl⟩ := List.mem_map.1 hz; rfl) (by kernel_rfl)
  · have hg : g ∈ [2] := hg
    obtain rfl := List.mem_singleton.1 hg
    exact int_of_shaped (t := 3) (zero := #[.int .i64 0]) hS (by kernel_rfl) (by kernel_rfl) rfl (by kernel_rfl) (by kernel_rfl) (by kernel_rfl)
theorem spaceSorts_spec (l : List TDecl) : PSpec Tryz.prog 3 [.vs l.length (F c_TDecl l)] (.pl (.bool true)) := (apostillelaw09_SpaceSorts_ok (G.SpaceSorts_eq l)).p
set_option maxRecDepth 100000 in
theorem spaceSorts_lifted (os : Os) (started : os.Started) (H : Type) (enc : TypeId × Value → H) :
    ReturnsInHanded {} Tryz.checked os 3 .any (fun w args => (Rows.spaceSortsSpec.pre enc Tryz.prog Tryz.f3 Rows.spaceSortsRow.domain false w args ∧ laidMetH Tryz.prog Rows.spaceSortsRow.laid w) ∧ sizedMet enc Tryz.prog Tryz.f3 (OpenSpec.ofChange Rows.spaceSortsSpec) false w args)
      (Rows.spaceSortsSpec.post enc Tryz.prog Tryz.f3 false true false false) := by
  refine lifted (C := Tryz.checked) (X := fun w _ => laidMetH Tryz.prog Rows.spaceSortsRow.laid w) (fun _ _ _ hh h => h.of_heap hh) lawOwn started (by kernel_rfl) Tryz.func3
    (ChangeSpec.witness_shaped (enc := enc) (C := Tryz.checked) (os := os) (X := fun w _ => laidMetH Tryz.prog Rows.spaceSortsRow.laid w) false (World.laidAll Tryz.prog os Rows.spaceSortsRow.laid) #[.slice none 0 0] 8 (World.laidAll_os _ _ _)
      (World.shaped_of_ZipB (by kernel_rfl) (by kernel_rfl)) (by kernel_rfl) (by kernel_rfl) (by kernel_rfl)
      (by rw [MakeChecks.laidMetH_plain _ _ _ (by kernel_rfl)]; exact laidMet_laidAll _ (by kernel_rfl) (by kernel_rfl))) ?_
  intro W base args ds gs before hval0 hW hL hS
  have hval : ∀ (j : Nat) t v, Tryz.f3.params[j]? = some t → args[j]? = some v → Value.okWide Tryz.prog W .any base t v := hval0
  have hW' := hW
  obtain ⟨p, q, hA0, hV, rfl, _, _⟩ := hW
  have hA : DataW.TrodAll enc Tryz.prog W 0 (fun _ => true) true Tryz.f3.params.toList args.toList ds p := hA0
  rw [Tryz.params3] at hA hval
  obtain ⟨v0, vs0, d0, ds0, p0, q0, hargs, rfl, rfl, h0, r0⟩ := trodAll_cons hA
  obtain ⟨rfl, rfl, rfl⟩ := trodAll_nil r0
  obtain rfl : args = #[v0] := by cases args; simp_all
  obtain ⟨rfl, rfl⟩ := trodVars_none hV
  obtain ⟨x0, _, hk0⟩ := rdDecls.one (fun l : List TDecl => .vs l.length (F c_TDecl l)) (fun _ => rfl) (by rw [Tryz.underlying22]) (hval 0 22 v0 rfl rfl) h0
  refine (law_calls (spaceSorts_spec x0) (vs := #[v0]) rfl ?_ (spaceSorts_glob hL hS)).mono fun e W' ⟨he, hb⟩ => ?_
  · intro i x v hx hv
    match i, hx, hv with
    | 0, hx, hv => simp at hx hv; subst hx hv; exact hk0
    | i + 1, hx, hv => simp at hx
  · subst he
    exact ⟨_, rfl, law_post (L := [22, 68, 9]) (tb := 4) hW' rfl (by kernel_rfl) (by kernel_rfl) hb (by kernel_rfl) Tryz.underlying4 rfl⟩
theorem and_two {a b : Bool} (h : a = true) (k : b = true) : (a && b) = true := by rw [h, k]; rfl
set_option maxHeartbeats 4000000 in
set_option maxRecDepth 100000 in
theorem spaceSorts_closed : joinedFacts Tryz.pinned.checked.prog 3 Tryz.f3 Rows.spaceSortsSpec Rows.spaceSortsRow = true := by
  unfold joinedFacts
  repeat' (with_reducible refine and_two ?_ ?_)
  all_goals (as_aux_lemma => kernel_rfl)
theorem spaceSorts_row : Rows.SpaceSortsSaid :=
  OpenClaim.holds_of_wide 3 Tryz.f3 rfl rfl rfl rfl rfl rfl rfl ⟨rfl, rfl, rfl, rfl, rfl⟩ rfl rfl rfl rfl rfl (by kernel_rfl) Tryz.func3 spaceSorts_closed
    (of_decide_eq_true (by kernel_rfl)) (by unfold Func.isWrapper; first | (rw [if_pos (by decide +kernel)]; kernel_rfl) | (rw [if_neg (by decide +kernel)]; exact ⟨rfl, rfl⟩))
    (fun os started H enc _ => spaceSorts_lifted os started H enc)
theorem spaceSorts : Rows.SpaceSortsCardSaid :=
  Claim7.holds_tied_plain_at .later [] [.data, .pinned] true (true, "56b6cdbb6ece0af63ee0992484941b973b8c59ec90f57df0bfc218d7fc1921a6") true spaceSorts_row (fun _ h => by cases h) (by as_aux_lemma => kernel_rfl) (fun _ h => by cases h) spaceSorts_row_tie rfl ⟨rfl, rfl⟩ (by as_aux_lemma => kernel_rfl) rfl
    (fun f fn hf hfn => by
      obtain rfl : f = 3 := Option.some.inj ((show Tryz.prog.funcNamed "apostille/apostillelaw09.SpaceSorts" = some 3 by as_aux_lemma => kernel_rfl).symm.trans hf) |>.symm
      obtain rfl : fn = Tryz.f3 := (Option.some.inj (Tryz.func3.symm.trans hfn)).symm
      exact ⟨by as_aux_lemma => kernel_rfl, fun j t ht => by
        rw [Tryz.params3] at ht
        have hm : t ∈ [22] := by simpa using Array.mem_of_getElem? ht
        have hall : ([22].all fun u => !Tryz.prog.wantsStandIn u) = true := by as_aux_lemma => kernel_rfl
        exact (show Tryz.prog.wantsStandIn t = false by simpa using List.all_eq_true.1 hall t hm)⟩)
    (by as_aux_lemma => kernel_rfl)
end Go.Proofs.YtipbfnjpfmmkfaaGreatDoor
