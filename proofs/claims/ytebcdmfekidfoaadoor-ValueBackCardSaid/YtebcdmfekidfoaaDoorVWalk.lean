/-
  WALKS, printed by aw.py: that the program's functions compute the plain ones. Conditions: none.
-/
import Derived.Test.YtebcdmfekidfoaaDoorProg
import Derived.Test.YtebcdmfekidfoaaDoorAbsZero
import Derived.Test.YtebcdmfekidfoaaDoorVPure
import Derived.Test.YtebcdmfekidfoaaDoorAbsSort
import Derived.Test.YtebcdmfekidfoaaDoorAbsFmt
import Derived.Test.YtebcdmfekidfoaaDoorLVWalk
set_option linter.unusedVariables false
set_option linter.unusedSimpArgs false
set_option maxRecDepth 20000
set_option maxHeartbeats 4000000
namespace Go.Proofs.YtebcdmfekidfoaaDoor
open Go Go.Abs W G
abbrev fmtG : Nat := 1
instance : GTab := ⟨[(fmtG, (Go.Lib.pow10Tab.map fun z => Value.int .u64 z))]⟩
def Tryd.U : List (Nat × TI) := [
  (2, ⟨.int .i64, 1, 8, .int .i64 0⟩),
  (3, ⟨.int .i64, 1, 8, .int .i64 0⟩),
  (4, ⟨.bool, 1, 1, .bool false⟩),
  (5, ⟨.int .u8, 1, 1, .int .u8 0⟩),
  (9, ⟨.string, 1, 16, .string ⟨#[]⟩⟩),
  (21, ⟨.int .i32, 1, 4, .int .i32 0⟩),
  (23, ⟨.slice 60, 1, 24, .slice none 0 0⟩),
  (25, ⟨.struct #[{ name := "Kind", type := 3, offset := 0, embedded := false, tag := "", pkgPath := "", byteOffset := 0 }, { name := "Set", type := 23, offset := 1, embedded := false, tag := "", pkgPath := "", byteOffset := 8 }, { name := "Bool", type := 4, offset := 2, embedded := false, tag := "", pkgPath := "", byteOffset := 32 }, { name := "N", type := 2, offset := 3, embedded := false, tag := "", pkgPath := "", byteOffset := 40 }, { name := "NaN", type := 4, offset := 4, embedded := false, tag := "", pkgPath := "", byteOffset := 48 }, { name := "Text", type := 9, offset := 5, embedded := false, tag := "", pkgPath := "", byteOffset := 56 }], 6, 72, .agg #[.int .i64 0, .slice none 0 0, .bool false, .int .i64 0, .bool false, .string ⟨#[]⟩]⟩),
  (26, ⟨.int .i64, 1, 8, .int .i64 0⟩),
  (29, ⟨.struct #[{ name := "Kind", type := 3, offset := 0, embedded := false, tag := "", pkgPath := "", byteOffset := 0 }, { name := "Set", type := 23, offset := 1, embedded := false, tag := "", pkgPath := "", byteOffset := 8 }, { name := "Bool", type := 4, offset := 2, embedded := false, tag := "", pkgPath := "", byteOffset := 32 }, { name := "N", type := 2, offset := 3, embedded := false, tag := "", pkgPath := "", byteOffset := 40 }, { name := "NaN", type := 4, offset := 4, embedded := false, tag := "", pkgPath := "", byteOffset := 48 }, { name := "Text", type := 9, offset := 5, embedded := false, tag := "", pkgPath := "", byteOffset := 56 }], 6, 72, .agg #[.int .i64 0, .slice none 0 0, .bool false, .int .i64 0, .bool false, .string ⟨#[]⟩]⟩),
  (55, ⟨.slice 5, 1, 24, .slice none 0 0⟩),
  (60, ⟨.struct #[{ name := "N", type := 3, offset := 0, embedded := false, tag := "", pkgPath := "", byteOffset := 0 }, { name := "Part", type := 3, offset := 1, embedded := false, tag := "", pkgPath := "", byteOffset := 8 }, { name := "I", type := 3, offset := 2, embedded := false, tag := "", pkgPath := "", byteOffset := 16 }], 3, 24, .agg #[.int .i64 0, .int .i64 0, .int .i64 0]⟩),
  (61, ⟨.pointer 113, 1, 8, .pointer none⟩),
  (66, ⟨.func #[21] #[4] false, 1, 8, .nilFunc⟩),
  (69, ⟨.array 256 4, 256, 256, .agg #[.bool false, .bool false, .bool false, .bool false, .bool false, .bool false, .bool false, .bool false, .bool false, .bool false, .bool false, .bool false, .bool false, .bool false, .bool false, .bool false, .bool false, .bool false, .bool false, .bool false, .bool false, .bool false, .bool false, .bool false, .bool false, .bool false, .bool false, .bool false, .bool false, .bool false, .bool false, .bool false, .bool false, .bool false, .bool false, .bool false, .bool false, .bool false, .bool false, .bool false, .bool false, .bool false, .bool false, .bool false, .bool false, .bool false, .bool false, .bool false, .bool false, .bool false, .bool false, .bool false, .bool false, .bool false, .bool false, .bool false, .bool false, .bool false, .bool false, .bool false, .bool false, .bool false, .bool false, .bool false, .bool false, .bool false, .bool false, .bool false, .bool false, .bool false, .bool false, .bool false, .bool false, .bool false, .bool false, .bool false, .bool false, .bool false, .bool false, .bool false, .bool false, .bool false, .bool false, .bool false, .bool false, .bool false, .bool false, .bool false, .bool false, .bool false, .bool false, .bool false, .bool false, .bool false, .bool false, .bool false, .bool false, .bool false, .bool false, .bool false, .bool false, .bool false, .bool false, .bool false, .bool false, .bool false, .bool false, .bool false, .bool false, .bool false, .bool false, .bool false, .bool false, .bool false, .bool false, .bool false, .bool false, .bool false, .bool false, .bool false, .bool false, .bool false, .bool false, .bool false, .bool false, .bool false, .bool false, .bool false, .bool false, .bool false, .bool false, .bool false, .bool false, .bool false, .bool false, .bool false, .bool false, .bool false, .bool false, .bool false, .bool false, .bool false, .bool false, .bool false, .bool false, .bool false, .bool false, .bool false, .bool false, .bool false, .bool false, .bool false, .bool false, .bool false, .bool false, .bool false, .bool false, .bool false, .bool false, .bool false, .bool false, .bool false, .bool false, .bool false, .bool false, .bool false, .bool false, .bool false, .bool false, .bool false, .bool false, .bool false, .bool false, .bool false, .bool false, .bool false, .bool false, .bool false, .bool false, .bool false, .bool false, .bool false, .bool false, .bool false, .bool false, .bool false, .bool false, .bool false, .bool false, .bool false, .bool false, .bool false, .bool false, .bool false, .bool false, .bool false, .bool false, .bool false, .bool false, .bool false, .bool false, .bool false, .bool false, .bool false, .bool false, .bool false, .bool false, .bool false, .bool false, .bool false, .bool false, .bool false, .bool false, .bool false, .bool false, .bool false, .bool false, .bool false, .bool false, .bool false, .bool false, .bool false, .bool false, .bool false, .bool false, .bool false, .bool false, .bool false, .bool false, .bool false, .bool false, .bool false, .bool false, .bool false, .bool false, .bool false, .bool false, .bool false, .bool false, .bool false, .bool false, .bool false, .bool false, .bool false, .bool false, .bool false, .bool false, .bool false, .bool false, .bool false, .bool false, .bool false, .bool false, .bool false, .bool false, .bool false]⟩),
  (73, ⟨.pointer 69, 1, 8, .pointer none⟩),
  (75, ⟨.func #[60, 60] #[3] false, 1, 8, .nilFunc⟩),
  (104, ⟨.int .u64, 1, 8, .int .u64 0⟩),
  (111, ⟨.slice 3, 1, 24, .slice none 0 0⟩),
  (137, ⟨.int .u32, 1, 4, .int .u32 0⟩),
  (151, ⟨.array 256 5, 256, 256, .agg #[.int .u8 0, .int .u8 0, .int .u8 0, .int .u8 0, .int .u8 0, .int .u8 0, .int .u8 0, .int .u8 0, .int .u8 0, .int .u8 0, .int .u8 0, .int .u8 0, .int .u8 0, .int .u8 0, .int .u8 0, .int .u8 0, .int .u8 0, .int .u8 0, .int .u8 0, .int .u8 0, .int .u8 0, .int .u8 0, .int .u8 0, .int .u8 0, .int .u8 0, .int .u8 0, .int .u8 0, .int .u8 0, .int .u8 0, .int .u8 0, .int .u8 0, .int .u8 0, .int .u8 0, .int .u8 0, .int .u8 0, .int .u8 0, .int .u8 0, .int .u8 0, .int .u8 0, .int .u8 0, .int .u8 0, .int .u8 0, .int .u8 0, .int .u8 0, .int .u8 0, .int .u8 0, .int .u8 0, .int .u8 0, .int .u8 0, .int .u8 0, .int .u8 0, .int .u8 0, .int .u8 0, .int .u8 0, .int .u8 0, .int .u8 0, .int .u8 0, .int .u8 0, .int .u8 0, .int .u8 0, .int .u8 0, .int .u8 0, .int .u8 0, .int .u8 0, .int .u8 0, .int .u8 0, .int .u8 0, .int .u8 0, .int .u8 0, .int .u8 0, .int .u8 0, .int .u8 0, .int .u8 0, .int .u8 0, .int .u8 0, .int .u8 0, .int .u8 0, .int .u8 0, .int .u8 0, .int .u8 0, .int .u8 0, .int .u8 0, .int .u8 0, .int .u8 0, .int .u8 0, .int .u8 0, .int .u8 0, .int .u8 0, .int .u8 0, .int .u8 0, .int .u8 0, .int .u8 0, .int .u8 0, .int .u8 0, .int .u8 0, .int .u8 0, .int .u8 0, .int .u8 0, .int .u8 0, .int .u8 0, .int .u8 0, .int .u8 0, .int .u8 0, .int .u8 0, .int .u8 0, .int .u8 0, .int .u8 0, .int .u8 0, .int .u8 0, .int .u8 0, .int .u8 0, .int .u8 0, .int .u8 0, .int .u8 0, .int .u8 0, .int .u8 0, .int .u8 0, .int .u8 0, .int .u8 0, .int .u8 0, .int .u8 0, .int .u8 0, .int .u8 0, .int .u8 0, .int .u8 0, .int .u8 0, .int .u8 0, .int .u8 0, .int .u8 0, .int .u8 0, .int .u8 0, .int .u8 0, .int .u8 0, .int .u8 0, .int .u8 0, .int .u8 0, .int .u8 0, .int .u8 0, .int .u8 0, .int .u8 0, .int .u8 0, .int .u8 0, .int .u8 0, .int .u8 0, .int .u8 0, .int .u8 0, .int .u8 0, .int .u8 0, .int .u8 0, .int .u8 0, .int .u8 0, .int .u8 0, .int .u8 0, .int .u8 0, .int .u8 0, .int .u8 0, .int .u8 0, .int .u8 0, .int .u8 0, .int .u8 0, .int .u8 0, .int .u8 0, .int .u8 0, .int .u8 0, .int .u8 0, .int .u8 0, .int .u8 0, .int .u8 0, .int .u8 0, .int .u8 0, .int .u8 0, .int .u8 0, .int .u8 0, .int .u8 0, .int .u8 0, .int .u8 0, .int .u8 0, .int .u8 0, .int .u8 0, .int .u8 0, .int .u8 0, .int .u8 0, .int .u8 0, .int .u8 0, .int .u8 0, .int .u8 0, .int .u8 0, .int .u8 0, .int .u8 0, .int .u8 0, .int .u8 0, .int .u8 0, .int .u8 0, .int .u8 0, .int .u8 0, .int .u8 0, .int .u8 0, .int .u8 0, .int .u8 0, .int .u8 0, .int .u8 0, .int .u8 0, .int .u8 0, .int .u8 0, .int .u8 0, .int .u8 0, .int .u8 0, .int .u8 0, .int .u8 0, .int .u8 0, .int .u8 0, .int .u8 0, .int .u8 0, .int .u8 0, .int .u8 0, .int .u8 0, .int .u8 0, .int .u8 0, .int .u8 0, .int .u8 0, .int .u8 0, .int .u8 0, .int .u8 0, .int .u8 0, .int .u8 0, .int .u8 0, .int .u8 0, .int .u8 0, .int .u8 0, .int .u8 0, .int .u8 0, .int .u8 0, .int .u8 0, .int .u8 0, .int .u8 0, .int .u8 0, .int .u8 0, .int .u8 0, .int .u8 0, .int .u8 0, .int .u8 0, .int .u8 0, .int .u8 0, .int .u8 0, .int .u8 0, .int .u8 0, .int .u8 0, .int .u8 0, .int .u8 0, .int .u8 0, .int .u8 0, .int .u8 0, .int .u8 0, .int .u8 0, .int .u8 0, .int .u8 0]⟩),
  (153, ⟨.struct #[{ name := "lo", type := 5, offset := 0, embedded := false, tag := "", pkgPath := "unicode/utf8", byteOffset := 0 }, { name := "hi", type := 5, offset := 1, embedded := false, tag := "", pkgPath := "unicode/utf8", byteOffset := 1 }], 2, 2, .agg #[.int .u8 0, .int .u8 0]⟩),
  (154, ⟨.array 16 153, 32, 32, .agg #[.int .u8 0, .int .u8 0, .int .u8 0, .int .u8 0, .int .u8 0, .int .u8 0, .int .u8 0, .int .u8 0, .int .u8 0, .int .u8 0, .int .u8 0, .int .u8 0, .int .u8 0, .int .u8 0, .int .u8 0, .int .u8 0, .int .u8 0, .int .u8 0, .int .u8 0, .int .u8 0, .int .u8 0, .int .u8 0, .int .u8 0, .int .u8 0, .int .u8 0, .int .u8 0, .int .u8 0, .int .u8 0, .int .u8 0, .int .u8 0, .int .u8 0, .int .u8 0]⟩)]
theorem Tryd.hU : TabOk Tryd.prog Tryd.U :=
  .cons (by kernel_rfl) (by kernel_rfl) <|
  .cons (by kernel_rfl) (by kernel_rfl) <|
  .cons (by kernel_rfl) (by kernel_rfl) <|
  .cons (by kernel_rfl) (by kernel_rfl) <|
  .cons (by kernel_rfl) (by kernel_rfl) <|
  .cons (by kernel_rfl) (by kernel_rfl) <|
  .cons (by kernel_rfl) (by kernel_rfl) <|
  .cons (by kernel_rfl) (by kernel_rfl) <|
  .cons (by kernel_rfl) (by kernel_rfl) <|
  .cons (by kernel_rfl) (by kernel_rfl) <|
  .cons (by kernel_rfl) (by kernel_rfl) <|
  .cons (by kernel_rfl) (by kernel_rfl) <|
  .cons (by kernel_rfl) (by kernel_rfl) <|
  .cons (by kernel_rfl) (by kernel_rfl) <|
  .cons (by kernel_rfl) (by kernel_rfl) <|
  .cons (by kernel_rfl) (by kernel_rfl) <|
  .cons (by kernel_rfl) (by kernel_rfl) <|
  .cons (by kernel_rfl) (by kernel_rfl) <|
  .cons (by kernel_rfl) (by kernel_rfl) <|
  .cons (by kernel_rfl) (by kernel_rfl) <|
  .cons (by kernel_rfl) (by kernel_rfl) <|
  .cons (by kernel_rfl) (by kernel_rfl) <|
  .cons (by kernel_rfl) (by kernel_rfl) <|
  .nil _
theorem hm : Tryd.prog.follows .mixedOrders = true := by kernel_rfl
theorem hs60 : Tryd.prog.stoodInHeld 60 = false := by kernel_rfl
theorem he60 : Tryd.prog.eqGuardType Tryd.prog.depth 60 = false := by kernel_rfl
def c_TPoint (x : TPoint) : List AV := [I x.N, I x.Part, I x.I]
def c_TValue (x : TValue) : List AV := [I x.Kind, .vs x.Set.length (F c_TPoint x.Set), B x.Bool_, I x.N, B x.NaN, S x.Text]
def c_TDecl (x : TDecl) : List AV := [S x.Prefix, S x.URI]
def c_TAttr (x : TAttr) : List AV := [S x.Prefix, S x.Local, S x.URI, S x.Value]
def c_TNode (x : TNode) : List AV := [I x.Kind, I x.Parent, S x.Prefix, S x.Local, S x.URI, S x.Text, .vs x.Decls.length (F c_TDecl x.Decls), .vs x.Attrs.length (F c_TAttr x.Attrs)]
def c_TDoc (x : TDoc) : List AV := [.vs x.l.length (F c_TNode x.l), .vs x.end_.length (F cI x.end_), I x.top]
theorem name_Blank_ok {c : UInt8} {r : Bool} (h : name_Blank c = some r) : XSpec Tryd.prog 35 [U c] [] (B r) [] [] := by
  unfold name_Blank at h
  refine X_of_run Tryd.hU Tryd.func35 (fun _ _ _ hB => ?_)
  refine k_seq ?_
  refine k_reg ?_
  refine l_assign ?_
  refine k_nil ?_
  refine f_t ?_
  refine k_seq ?_
  refine k_reg ?_
  refine l_move ?_
  refine l_cmp ?_
  refine l_move ?_
  refine l_split h (fun _ h => ?_) (fun _ h => ?_)
  · refine l_off ?_
    refine l_off ?_
    refine l_pick_true ?_
    refine l_move ?_
    refine l_off ?_
    refine l_off ?_
    refine l_pick_true ?_
    refine l_move ?_
    refine l_off ?_
    refine l_off ?_
    refine l_pick_true ?_
    refine l_assign ?_
    refine k_nil ?_
    refine f_t ?_
    refine k_retc ?_
    apply k_ret [] hB h
  refine l_on ?_
  refine l_move ?_
  refine l_on ?_
  refine l_cmp ?_
  refine l_pick_false ?_
  refine l_move ?_
  refine l_split h (fun _ h => ?_) (fun _ h => ?_)
  · refine l_off ?_
    refine l_off ?_
    refine l_pick_true ?_
    refine l_move ?_
    refine l_off ?_
    refine l_off ?_
    refine l_pick_true ?_
    refine l_assign ?_
    refine k_nil ?_
    refine f_t ?_
    refine k_retc ?_
    apply k_ret [] hB h
  refine l_on ?_
  refine l_move ?_
  refine l_on ?_
  refine l_cmp ?_
  refine l_pick_false ?_
  refine l_move ?_
  refine l_split h (fun _ h => ?_) (fun _ h => ?_)
  · refine l_off ?_
    refine l_off ?_
    refine l_pick_true ?_
    refine l_assign ?_
    refine k_nil ?_
    refine f_t ?_
    refine k_retc ?_
    apply k_ret [] hB h
  refine l_on ?_
  refine l_move ?_
  refine l_on ?_
  refine l_cmp ?_
  refine l_pick_false ?_
  refine l_assign ?_
  refine k_nil ?_
  refine f_t ?_
  refine k_retc ?_
  apply k_ret [] hB h
theorem name_Trim_ok {s : Str} {r : Str} (h : name_Trim s = some r) : XSpec Tryd.prog 23 [S s] [] (S r) [] [] := by
  unfold name_Trim at h
  refine X_of_run Tryd.hU Tryd.func23 (fun _ _ _ hB => ?_)
  refine k_seq ?_
  refine k_reg ?_
  refine l_assign ?_
  refine k_nil ?_
  refine f_t ?_
  refine k_seq ?_
  refine k_block ?_
  refine k_loop (fun y1 => ⟨[(0, S y1)], [], []⟩) (fun q5 => (.exit 0, ⟨[(0, S q5)], [], []⟩)) [] hB h (fun y1 t h => ?_) (fun q5 h => ?_)
  · unfold name_Trim_b1 at h
    refine k_seq ?_
    refine k_seq ?_
    refine k_reg ?_
    refine l_move ?_
    refine l_sne ?_
    refine l_move ?_
    refine l_split h (fun _ h => ?_) (fun _ h => ?_)
    · refine l_on ?_
      refine l_move ?_
      refine l_on ?_
      refine l_ats h (fun v2 _ h => ?_)
      refine l_on ?_
      refine l_call h (fun _ => name_Blank_ok) (fun v3 _ h => ?_)
      refine l_pick_true ?_
      refine k_nil ?_
      refine f_t ?_
      refine k_if h (fun _ h => ?_) (fun _ h => ?_)
      · refine k_skip ?_
        refine f_t ?_
        refine k_block ?_
        refine k_reg ?_
        refine l_move ?_
        refine l_subs h (fun v4 _ h => ?_)
        refine l_assign ?_
        refine k_nil ?_
        refine f_b ?_
        exact k_next [] hB h
      refine k_exit ?_
      refine f_te ?_
      exact k_brk [] hB h
    refine l_off ?_
    refine l_off ?_
    refine l_off ?_
    refine l_pick_false ?_
    refine k_nil ?_
    refine f_t ?_
    refine k_f ?_
    refine k_exit ?_
    refine f_te ?_
    exact k_brk [] hB h
  refine f_be ?_
  refine f_t ?_
  refine k_seq ?_
  refine k_block ?_
  refine k_loop (fun y6 => ⟨[(0, S y6)], [], []⟩) (fun q10 => (.exit 2, ⟨[(0, S q10)], [], []⟩)) [] hB h (fun y6 t h => ?_) (fun q10 h => ?_)
  · unfold name_Trim_b2 at h
    refine k_seq ?_
    refine k_seq ?_
    refine k_reg ?_
    refine l_move ?_
    refine l_sne ?_
    refine l_move ?_
    refine l_split h (fun _ h => ?_) (fun _ h => ?_)
    · refine l_on ?_
      refine l_move ?_
      refine l_on ?_
      refine l_move ?_
      refine l_on ?_
      refine l_lens ?_
      refine l_on ?_
      refine l_subw ?_
      refine l_on ?_
      refine l_ats h (fun v7 _ h => ?_)
      refine l_on ?_
      refine l_call h (fun _ => name_Blank_ok) (fun v8 _ h => ?_)
      refine l_pick_true ?_
      refine k_nil ?_
      refine f_t ?_
      refine k_if h (fun _ h => ?_) (fun _ h => ?_)
      · refine k_skip ?_
        refine f_t ?_
        refine k_block ?_
        refine k_reg ?_
        refine l_move ?_
        refine l_move ?_
        refine l_lens ?_
        refine l_subw ?_
        refine l_subs h (fun v9 _ h => ?_)
        refine l_assign ?_
        refine k_nil ?_
        refine f_b ?_
        exact k_next [] hB h
      refine k_exit ?_
      refine f_te ?_
      exact k_brk [] hB h
    refine l_off ?_
    refine l_off ?_
    refine l_off ?_
    refine l_off ?_
    refine l_off ?_
    refine l_off ?_
    refine l_pick_false ?_
    refine k_nil ?_
    refine f_t ?_
    refine k_f ?_
    refine k_exit ?_
    refine f_te ?_
    exact k_brk [] hB h
  refine f_be ?_
  refine f_t ?_
  refine k_seq ?_
  refine k_reg ?_
  refine l_move ?_
  refine l_assign ?_
  refine k_nil ?_
  refine f_t ?_
  refine k_retc ?_
  apply k_ret [] hB h
theorem stringslite_HasPrefix_ok {s : Str} {prefix_ : Str} {r : Bool} (h : stringslite_HasPrefix s prefix_ = some r) : XSpec Tryd.prog 59 [S s, S prefix_] [] (B r) [] [] := by
  unfold stringslite_HasPrefix at h
  refine X_of_run Tryd.hU Tryd.func59 (fun _ _ _ hB => ?_)
  refine k_seq ?_
  refine k_reg ?_
  refine l_assign ?_
  refine k_nil ?_
  refine f_t ?_
  refine k_seq ?_
  refine k_reg ?_
  refine l_move ?_
  refine l_lens ?_
  refine l_move ?_
  refine l_lens ?_
  refine l_cmp ?_
  refine l_move ?_
  refine l_split h (fun _ h => ?_) (fun _ h => ?_)
  · refine l_on ?_
    refine l_move ?_
    refine l_on ?_
    refine l_move ?_
    refine l_on ?_
    refine l_lens ?_
    refine l_on ?_
    refine l_subs h (fun v1 _ h => ?_)
    refine l_on ?_
    refine l_move ?_
    refine l_on ?_
    refine l_seq ?_
    refine l_pick_true ?_
    refine l_assign ?_
    refine k_nil ?_
    refine f_t ?_
    refine k_retc ?_
    apply k_ret [] hB h
  refine l_off ?_
  refine l_off ?_
  refine l_off ?_
  refine l_off ?_
  refine l_off ?_
  refine l_off ?_
  refine l_pick_false ?_
  refine l_assign ?_
  refine k_nil ?_
  refine f_t ?_
  refine k_retc ?_
  apply k_ret [] hB h
theorem stringslite_CutPrefix_ok {s : Str} {prefix_ : Str} {r : Str × Bool} (h : stringslite_CutPrefix s prefix_ = some r) : XSpec Tryd.prog 36 [S s, S prefix_] [] (.tup [S r.1, B r.2]) [] [] := by
  unfold stringslite_CutPrefix at h
  refine X_of_run Tryd.hU Tryd.func36 (fun _ _ _ hB => ?_)
  refine k_seq ?_
  refine k_reg ?_
  refine l_assign ?_
  refine l_assign ?_
  refine k_nil ?_
  refine f_t ?_
  refine k_seq ?_
  refine k_seq ?_
  refine k_reg ?_
  refine l_move ?_
  refine l_move ?_
  refine l_call h (fun _ => stringslite_HasPrefix_ok) (fun v1 _ h => ?_)
  refine l_un ?_
  refine k_nil ?_
  refine f_t ?_
  refine k_if h (fun _ h => ?_) (fun _ h => ?_)
  · refine k_seq ?_
    refine k_reg ?_
    refine l_move ?_
    refine l_assign ?_
    refine l_assign ?_
    refine k_nil ?_
    refine f_t ?_
    refine k_retc ?_
    refine f_tr ?_
    apply k_ret [] hB h
  refine k_skip ?_
  refine f_t ?_
  refine k_seq ?_
  refine k_reg ?_
  refine l_move ?_
  refine l_move ?_
  refine l_lens ?_
  refine l_subs h (fun v2 _ h => ?_)
  refine l_assign ?_
  refine l_assign ?_
  refine k_nil ?_
  refine f_t ?_
  refine k_retc ?_
  apply k_ret [] hB h
theorem strings_CutPrefix_ok {s : Str} {prefix_ : Str} {r : Str × Bool} (h : strings_CutPrefix s prefix_ = some r) : XSpec Tryd.prog 24 [S s, S prefix_] [] (.tup [S r.1, B r.2]) [] [] := by
  unfold strings_CutPrefix at h
  refine X_of_run Tryd.hU Tryd.func24 (fun _ _ _ hB => ?_)
  refine k_seq ?_
  refine k_reg ?_
  refine l_assign ?_
  refine l_assign ?_
  refine k_nil ?_
  refine f_t ?_
  refine k_seq ?_
  refine k_reg ?_
  refine l_move ?_
  refine l_move ?_
  refine l_call h (fun _ => stringslite_CutPrefix_ok) (fun v1 _ h => ?_)
  refine l_extract ?_
  refine l_extract ?_
  refine l_assign ?_
  refine l_assign ?_
  refine k_nil ?_
  refine f_t ?_
  refine k_retc ?_
  apply k_ret [] hB h
theorem stringslite_IndexByte_ok {s : Str} {c : UInt8} {r : Int} (h : stringslite_IndexByte s c = some r) : XSpec Tryd.prog 81 [S s, U c] [] (I r) [] [] := by
  unfold stringslite_IndexByte at h
  refine X_of_run Tryd.hU Tryd.func81 (fun _ _ _ hB => ?_)
  refine k_seq ?_
  refine k_reg ?_
  refine l_assign ?_
  refine k_nil ?_
  refine f_t ?_
  refine k_seq ?_
  refine k_reg ?_
  refine l_move ?_
  refine l_move ?_
  refine l_nat (indexByte_spec Tryd.func111 s c) ?_
  refine l_assign ?_
  refine k_nil ?_
  refine f_t ?_
  refine k_retc ?_
  apply k_ret [] hB h
theorem bytealg_Cutover_ok {n : Int} {r : Int} (h : bytealg_Cutover n = some r) : XSpec Tryd.prog 83 [I n] [] (I r) [] [] := by
  unfold bytealg_Cutover at h
  refine X_of_run Tryd.hU Tryd.func83 (fun _ _ _ hB => ?_)
  refine k_seq ?_
  refine k_reg ?_
  refine l_assign ?_
  refine k_nil ?_
  refine f_t ?_
  refine k_seq ?_
  refine k_reg ?_
  refine l_move ?_
  refine l_addw ?_
  refine l_quoC ?_
  refine l_assign ?_
  refine k_nil ?_
  refine f_t ?_
  refine k_retc ?_
  apply k_ret [] hB h
theorem bytealg_hashStr_string_ok {sep : Str} {r : Int × Int} (h : bytealg_hashStr_string sep = some r) : XSpec Tryd.prog 112 [S sep] [] (.tup [.pl (.int .u32 r.1), .pl (.int .u32 r.2)]) [] [] := by
  unfold bytealg_hashStr_string at h
  refine X_of_run Tryd.hU Tryd.func112 (fun _ _ _ hB => ?_)
  refine k_seq ?_
  refine k_reg ?_
  refine l_assign ?_
  refine l_assign ?_
  refine k_nil ?_
  refine f_t ?_
  refine k_seq ?_
  refine k_reg ?_
  refine l_assign ?_
  refine k_nil ?_
  refine f_t ?_
  refine k_seq ?_
  refine k_seq ?_
  refine k_reg ?_
  refine l_assign ?_
  refine k_nil ?_
  refine f_t ?_
  refine k_block ?_
  refine k_loop (fun y1 => ⟨[(0, S sep), (4, .pl (.int .u32 y1.1)), (5, I y1.2)], [], []⟩) (fun q3 => (.exit 0, ⟨[(0, S sep), (4, .pl (.int .u32 q3))], [], []⟩)) [] hB h (fun y1 t h => ?_) (fun q3 h => ?_)
  · unfold bytealg_hashStr_string_b1 at h
    refine k_seq ?_
    refine k_seq ?_
    refine k_reg ?_
    refine l_move ?_
    refine l_move ?_
    refine l_lens ?_
    refine l_cmp ?_
    refine k_nil ?_
    refine f_t ?_
    refine k_if h (fun _ h => ?_) (fun _ h => ?_)
    · refine k_skip ?_
      refine f_t ?_
      refine k_seq ?_
      refine k_block ?_
      refine k_reg ?_
      refine l_move ?_
      refine l_mulw ?_
      refine l_move ?_
      refine l_move ?_
      refine l_ats h (fun v2 _ h => ?_)
      refine l_conv_int ?_
      refine l_addw ?_
      refine l_assign ?_
      refine k_nil ?_
      refine f_b ?_
      refine f_t ?_
      refine k_reg ?_
      refine l_move ?_
      refine l_addw ?_
      refine l_assign ?_
      refine k_nil ?_
      exact k_next [] hB h
    refine k_exit ?_
    refine f_te ?_
    exact k_brk [] hB h
  refine f_be ?_
  refine f_t ?_
  refine k_seq ?_
  refine k_reg ?_
  refine l_assign ?_
  refine l_assign ?_
  refine k_nil ?_
  refine f_t ?_
  refine k_seq ?_
  refine k_seq ?_
  refine k_reg ?_
  refine l_move ?_
  refine l_lens ?_
  refine l_assign ?_
  refine k_nil ?_
  refine f_t ?_
  refine k_block ?_
  refine k_loop (fun y4 => ⟨[(4, .pl (.int .u32 q3)), (6, .pl (.int .u32 y4.1)), (7, .pl (.int .u32 y4.2.1)), (8, I y4.2.2)], [], []⟩) (fun q5 => (.exit 2, ⟨[(4, .pl (.int .u32 q3)), (6, .pl (.int .u32 q5))], [], []⟩)) [] hB h (fun y4 t h => ?_) (fun q5 h => ?_)
  · unfold bytealg_hashStr_string_b2 at h
    refine k_seq ?_
    refine k_seq ?_
    refine k_reg ?_
    refine l_move ?_
    refine l_cmp ?_
    refine k_nil ?_
    refine f_t ?_
    refine k_if h (fun _ h => ?_) (fun _ h => ?_)
    · refine k_skip ?_
      refine f_t ?_
      refine k_seq ?_
      refine k_block ?_
      refine k_seq ?_
      refine k_seq ?_
      refine k_reg ?_
      refine l_move ?_
      refine l_bits ?_
      refine l_cmp ?_
      refine k_nil ?_
      refine f_t ?_
      refine k_if h (fun _ h => ?_) (fun _ h => ?_)
      · refine k_reg ?_
        refine l_move ?_
        refine l_move ?_
        refine l_mulw ?_
        refine l_assign ?_
        refine k_nil ?_
        refine f_t ?_
        refine k_reg ?_
        refine l_move ?_
        refine l_move ?_
        refine l_mulw ?_
        refine l_assign ?_
        refine k_nil ?_
        refine f_b ?_
        refine f_t ?_
        refine k_reg ?_
        refine l_move ?_
        refine l_shrC (r := (y4.2.2.fdiv (2 ^ 1))) ?_
        refine l_assign ?_
        refine k_nil ?_
        exact k_next [] hB h
      refine k_skip ?_
      refine f_t ?_
      refine k_reg ?_
      refine l_move ?_
      refine l_move ?_
      refine l_mulw ?_
      refine l_assign ?_
      refine k_nil ?_
      refine f_b ?_
      refine f_t ?_
      refine k_reg ?_
      refine l_move ?_
      refine l_shrC (r := (y4.2.2.fdiv (2 ^ 1))) ?_
      refine l_assign ?_
      refine k_nil ?_
      exact k_next [] hB h
    refine k_exit ?_
    refine f_te ?_
    exact k_brk [] hB h
  refine f_be ?_
  refine f_t ?_
  refine k_seq ?_
  refine k_reg ?_
  refine l_move ?_
  refine l_move ?_
  refine l_assign ?_
  refine l_assign ?_
  refine k_nil ?_
  refine f_t ?_
  refine k_retc ?_
  apply k_ret [] hB h
theorem bytealg_IndexRabinKarp_string_ok {s : Str} {sep : Str} {r : Int} (h : bytealg_IndexRabinKarp_string s sep = some r) : XSpec Tryd.prog 84 [S s, S sep] [] (I r) [] [] := by
  unfold bytealg_IndexRabinKarp_string at h
  refine X_of_run Tryd.hU Tryd.func84 (fun _ _ _ hB => ?_)
  refine k_seq ?_
  refine k_reg ?_
  refine l_assign ?_
  refine k_nil ?_
  refine f_t ?_
  refine k_seq ?_
  refine k_reg ?_
  refine l_move ?_
  refine l_call h (fun _ => bytealg_hashStr_string_ok) (fun v1 _ h => ?_)
  refine l_move ?_
  refine l_extract ?_
  refine l_extract ?_
  refine l_assign ?_
  refine l_assign ?_
  refine k_nil ?_
  refine f_t ?_
  refine k_seq ?_
  refine k_reg ?_
  refine l_move ?_
  refine l_lens ?_
  refine l_assign ?_
  refine k_nil ?_
  refine f_t ?_
  refine k_seq ?_
  refine k_reg ?_
  refine l_assign ?_
  refine k_nil ?_
  refine f_t ?_
  refine k_seq ?_
  refine k_seq ?_
  refine k_reg ?_
  refine l_assign ?_
  refine k_nil ?_
  refine f_t ?_
  refine k_block ?_
  refine k_loop (fun y2 => ⟨[(0, S s), (1, S sep), (5, .pl (.int .u32 v1.1)), (6, .pl (.int .u32 v1.2)), (7, I (sep.length : Int)), (8, .pl (.int .u32 y2.1)), (9, I y2.2)], [], []⟩) (fun q4 => (.exit 0, ⟨[(0, S s), (1, S sep), (5, .pl (.int .u32 v1.1)), (6, .pl (.int .u32 v1.2)), (7, I (sep.length : Int)), (8, .pl (.int .u32 q4))], [], []⟩)) [] hB h (fun y2 t h => ?_) (fun q4 h => ?_)
  · unfold bytealg_IndexRabinKarp_string_b1 at h
    refine k_seq ?_
    refine k_seq ?_
    refine k_reg ?_
    refine l_move ?_
    refine l_move ?_
    refine l_cmp ?_
    refine k_nil ?_
    refine f_t ?_
    refine k_if h (fun _ h => ?_) (fun _ h => ?_)
    · refine k_skip ?_
      refine f_t ?_
      refine k_seq ?_
      refine k_block ?_
      refine k_reg ?_
      refine l_move ?_
      refine l_mulw ?_
      refine l_move ?_
      refine l_move ?_
      refine l_ats h (fun v3 _ h => ?_)
      refine l_conv_int ?_
      refine l_addw ?_
      refine l_assign ?_
      refine k_nil ?_
      refine f_b ?_
      refine f_t ?_
      refine k_reg ?_
      refine l_move ?_
      refine l_addw ?_
      refine l_assign ?_
      refine k_nil ?_
      exact k_next [] hB h
    refine k_exit ?_
    refine f_te ?_
    exact k_brk [] hB h
  refine f_be ?_
  refine f_t ?_
  refine k_seq ?_
  refine k_seq ?_
  refine k_cut (fun q6 => (.normal, ⟨[(0, S s), (1, S sep), (5, .pl (.int .u32 v1.1)), (6, .pl (.int .u32 v1.2)), (7, I (sep.length : Int)), (8, .pl (.int .u32 q4)), (39, B q6)], [], []⟩)) h (fun t h => ?_) (fun q6 h => ?_)
  · refine k_reg ?_
    refine l_move ?_
    refine l_move ?_
    refine l_cmp ?_
    refine l_move ?_
    refine l_split h (fun _ h => ?_) (fun _ h => ?_)
    · refine l_on ?_
      refine l_move ?_
      refine l_on ?_
      refine l_move ?_
      refine l_on ?_
      refine l_subs h (fun v5 _ h => ?_)
      refine l_on ?_
      refine l_move ?_
      refine l_on ?_
      refine l_seq ?_
      refine l_pick_true ?_
      refine k_nil ?_
      exact k_out [] hB h
    refine l_off ?_
    refine l_off ?_
    refine l_off ?_
    refine l_off ?_
    refine l_off ?_
    refine l_pick_false ?_
    refine k_nil ?_
    exact k_out [] hB h
  refine f_t ?_
  refine k_if h (fun _ h => ?_) (fun _ h => ?_)
  · refine k_seq ?_
    refine k_reg ?_
    refine l_assign ?_
    refine k_nil ?_
    refine f_t ?_
    refine k_retc ?_
    refine f_tr ?_
    apply k_ret [] hB h
  refine k_skip ?_
  refine f_t ?_
  refine k_seq ?_
  refine k_seq ?_
  refine k_reg ?_
  refine l_move ?_
  refine l_assign ?_
  refine k_nil ?_
  refine f_t ?_
  refine k_block ?_
  refine k_loop (fun y7 => ⟨[(0, S s), (1, S sep), (5, .pl (.int .u32 v1.1)), (6, .pl (.int .u32 v1.2)), (7, I (sep.length : Int)), (8, .pl (.int .u32 y7.1)), (10, I y7.2)], [], []⟩) (Sum.elim (fun q11 => (.ret, ⟨[(4, I q11)], [], []⟩)) (fun q12 => (.exit 2, ⟨[], [], []⟩))) [] hB h (fun y7 t h => ?_) (fun q h => ?_)
  · unfold bytealg_IndexRabinKarp_string_b2 at h
    refine k_seq ?_
    refine k_seq ?_
    refine k_reg ?_
    refine l_move ?_
    refine l_move ?_
    refine l_lens ?_
    refine l_cmp ?_
    refine k_nil ?_
    refine f_t ?_
    refine k_if h (fun _ h => ?_) (fun _ h => ?_)
    · refine k_skip ?_
      refine f_t ?_
      refine k_block ?_
      refine k_seq ?_
      refine k_reg ?_
      refine l_move ?_
      refine l_mulw ?_
      refine l_assign ?_
      refine k_nil ?_
      refine f_t ?_
      refine k_seq ?_
      refine k_reg ?_
      refine l_move ?_
      refine l_move ?_
      refine l_move ?_
      refine l_ats h (fun v8 _ h => ?_)
      refine l_conv_int ?_
      refine l_addw ?_
      refine l_assign ?_
      refine k_nil ?_
      refine f_t ?_
      refine k_seq ?_
      refine k_reg ?_
      refine l_move ?_
      refine l_move ?_
      refine l_move ?_
      refine l_move ?_
      refine l_move ?_
      refine l_subw ?_
      refine l_ats h (fun v9 _ h => ?_)
      refine l_conv_int ?_
      refine l_mulw ?_
      refine l_subw ?_
      refine l_assign ?_
      refine k_nil ?_
      refine f_t ?_
      refine k_seq ?_
      refine k_reg ?_
      refine l_move ?_
      refine l_addw ?_
      refine l_assign ?_
      refine k_nil ?_
      refine f_t ?_
      refine k_seq ?_
      refine k_reg ?_
      refine l_move ?_
      refine l_move ?_
      refine l_cmp ?_
      refine l_move ?_
      refine l_split h (fun _ h => ?_) (fun _ h => ?_)
      · refine l_on ?_
        refine l_move ?_
        refine l_on ?_
        refine l_move ?_
        refine l_on ?_
        refine l_move ?_
        refine l_on ?_
        refine l_subw ?_
        refine l_on ?_
        refine l_move ?_
        refine l_on ?_
        refine l_subs h (fun v10 _ h => ?_)
        refine l_on ?_
        refine l_move ?_
        refine l_on ?_
        refine l_seq ?_
        refine l_pick_true ?_
        refine k_nil ?_
        refine f_t ?_
        refine k_if h (fun _ h => ?_) (fun _ h => ?_)
        · refine k_seq ?_
          refine k_reg ?_
          refine l_move ?_
          refine l_move ?_
          refine l_subw ?_
          refine l_assign ?_
          refine k_nil ?_
          refine f_t ?_
          refine k_retc ?_
          refine f_br ?_
          exact k_brk [] hB h
        refine k_skip ?_
        refine f_b ?_
        exact k_next [] hB h
      refine l_off ?_
      refine l_off ?_
      refine l_off ?_
      refine l_off ?_
      refine l_off ?_
      refine l_off ?_
      refine l_off ?_
      refine l_off ?_
      refine l_pick_false ?_
      refine k_nil ?_
      refine f_t ?_
      refine k_f ?_
      refine k_skip ?_
      refine f_b ?_
      exact k_next [] hB h
    refine k_exit ?_
    refine f_te ?_
    exact k_brk [] hB h
  rcases q with q11 | q12
  · dsimp only [Sum.elim] at h ⊢
    refine f_br ?_
    refine f_tr ?_
    apply k_ret [] hB h
  dsimp only [Sum.elim] at h ⊢
  refine f_be ?_
  refine f_t ?_
  refine k_seq ?_
  refine k_reg ?_
  refine l_assign ?_
  refine k_nil ?_
  refine f_t ?_
  refine k_retc ?_
  apply k_ret [] hB h
theorem stringslite_Index_ok {s : Str} {substr : Str} {r : Int} (h : stringslite_Index s substr = some r) : XSpec Tryd.prog 60 [S s, S substr] [] (I r) [] [] := by
  unfold stringslite_Index at h
  refine X_of_run Tryd.hU Tryd.func60 (fun _ _ _ hB => ?_)
  refine k_seq ?_
  refine k_reg ?_
  refine l_assign ?_
  refine k_nil ?_
  refine f_t ?_
  refine k_seq ?_
  refine k_reg ?_
  refine l_move ?_
  refine l_lens ?_
  refine l_assign ?_
  refine k_nil ?_
  refine f_t ?_
  refine k_seq ?_
  refine k_block ?_
  refine k_seq ?_
  refine k_cut (fun q1 => (.normal, ⟨[(0, S s), (1, S substr), (5, I (substr.length : Int)), (16, B q1)], [], []⟩)) h (fun t h => ?_) (fun q1 h => ?_)
  · refine k_reg ?_
    refine l_move ?_
    refine l_cmp ?_
    refine l_move ?_
    refine l_split h (fun _ h => ?_) (fun _ h => ?_)
    · refine l_off ?_
      refine l_off ?_
      refine l_off ?_
      refine l_pick_true ?_
      refine l_assign ?_
      refine k_nil ?_
      exact k_out [] hB h
    refine l_on ?_
    refine l_move ?_
    refine l_on ?_
    refine l_move ?_
    refine l_on ?_
    refine l_seq ?_
    refine l_pick_false ?_
    refine l_assign ?_
    refine k_nil ?_
    exact k_out [] hB h
  refine f_t ?_
  refine k_if h (fun _ h => ?_) (fun _ h => ?_)
  · refine k_seq ?_
    refine k_reg ?_
    refine l_assign ?_
    refine k_nil ?_
    refine f_t ?_
    refine k_retc ?_
    refine f_br ?_
    refine f_tr ?_
    apply k_ret [] hB h
  refine k_seq ?_
  refine k_reg ?_
  refine l_move ?_
  refine l_cmp ?_
  refine l_assign ?_
  refine k_nil ?_
  refine f_t ?_
  refine k_if h (fun _ h => ?_) (fun _ h => ?_)
  · refine k_seq ?_
    refine k_reg ?_
    refine l_move ?_
    refine l_move ?_
    refine l_ats h (fun v2 _ h => ?_)
    refine l_call h (fun _ => stringslite_IndexByte_ok) (fun v3 _ h => ?_)
    refine l_assign ?_
    refine k_nil ?_
    refine f_t ?_
    refine k_retc ?_
    refine f_br ?_
    refine f_tr ?_
    apply k_ret [] hB h
  refine k_seq ?_
  refine k_reg ?_
  refine l_move ?_
  refine l_move ?_
  refine l_lens ?_
  refine l_cmp ?_
  refine l_assign ?_
  refine k_nil ?_
  refine f_t ?_
  refine k_if h (fun _ h => ?_) (fun _ h => ?_)
  · refine k_seq ?_
    refine k_reg ?_
    refine l_assign ?_
    refine k_nil ?_
    refine f_t ?_
    refine k_retc ?_
    refine f_br ?_
    refine f_tr ?_
    apply k_ret [] hB h
  refine k_seq ?_
  refine k_reg ?_
  refine l_move ?_
  cases h
theorem stringslite_Cut_ok {s : Str} {sep : Str} {r : Str × Str × Bool} (h : stringslite_Cut s sep = some r) : XSpec Tryd.prog 37 [S s, S sep] [] (.tup [S r.1, S r.2.1, B r.2.2]) [] [] := by
  unfold stringslite_Cut at h
  refine X_of_run Tryd.hU Tryd.func37 (fun _ _ _ hB => ?_)
  refine k_seq ?_
  refine k_reg ?_
  refine l_assign ?_
  refine l_assign ?_
  refine l_assign ?_
  refine k_nil ?_
  refine f_t ?_
  refine k_seq ?_
  refine k_seq ?_
  refine k_reg ?_
  refine l_move ?_
  refine l_move ?_
  refine l_call h (fun _ => stringslite_Index_ok) (fun v1 _ h => ?_)
  refine l_assign ?_
  refine k_nil ?_
  refine f_t ?_
  refine k_seq ?_
  refine k_reg ?_
  refine l_move ?_
  refine l_cmp ?_
  refine k_nil ?_
  refine f_t ?_
  refine k_if h (fun _ h => ?_) (fun _ h => ?_)
  · refine k_seq ?_
    refine k_mix [] (.q 0 (.q 1 (.q 2 (.q 3 (.q 4 (.q 5 (.q 6 (.q 7 (.q 8 (.q 9 (.q 10 (.q 11 (.done))))))))))))) hm ?_
    refine gq ?_
    refine n_move ?_
    refine gq ?_
    refine n_move ?_
    refine gq ?_
    refine n_subs h (fun v2 _ h => ?_)
    refine gq ?_
    refine n_move ?_
    refine gq ?_
    refine n_move ?_
    refine gq ?_
    refine n_move ?_
    refine gq ?_
    refine n_lens ?_
    refine gq ?_
    refine n_addw ?_
    refine gq ?_
    refine n_subs h (fun v3 _ h => ?_)
    refine gq ?_
    refine n_assign ?_
    refine gq ?_
    refine n_assign ?_
    refine gq ?_
    refine n_assign ?_
    refine m_nil ?_
    refine f_t ?_
    refine k_retc ?_
    refine f_tr ?_
    apply k_ret [] hB h
  refine k_skip ?_
  refine f_t ?_
  refine k_seq ?_
  refine k_reg ?_
  refine l_move ?_
  refine l_assign ?_
  refine l_assign ?_
  refine l_assign ?_
  refine k_nil ?_
  refine f_t ?_
  refine k_retc ?_
  apply k_ret [] hB h
theorem strings_Cut_ok {s : Str} {sep : Str} {r : Str × Str × Bool} (h : strings_Cut s sep = some r) : XSpec Tryd.prog 25 [S s, S sep] [] (.tup [S r.1, S r.2.1, B r.2.2]) [] [] := by
  unfold strings_Cut at h
  refine X_of_run Tryd.hU Tryd.func25 (fun _ _ _ hB => ?_)
  refine k_seq ?_
  refine k_reg ?_
  refine l_assign ?_
  refine l_assign ?_
  refine l_assign ?_
  refine k_nil ?_
  refine f_t ?_
  refine k_seq ?_
  refine k_reg ?_
  refine l_move ?_
  refine l_move ?_
  refine l_call h (fun _ => stringslite_Cut_ok) (fun v1 _ h => ?_)
  refine l_extract ?_
  refine l_extract ?_
  refine l_extract ?_
  refine l_assign ?_
  refine l_assign ?_
  refine l_assign ?_
  refine k_nil ?_
  refine f_t ?_
  refine k_retc ?_
  apply k_ret [] hB h
theorem strings_indexFunc_ok {s : Str} {f : (Int → Option Bool)} {truth : Bool} {fk_f : Nat} {fc_f : List AV} (hf_f : ∀ {x0 : Int} {r : Bool}, f x0 = some r → XSpec Tryd.prog fk_f ((.pl (.int .i32 x0)) :: fc_f) [] (B r) [] []) (hc_f : AV.closedL fc_f = true ∧ AV.onlyL [] fc_f = true) {r : Int} (h : strings_indexFunc s f truth = some r) : XSpec Tryd.prog 61 [S s, .fn (.func fk_f) [] fc_f, B truth] [] (I r) [] [] := by
  unfold strings_indexFunc at h
  refine X_of_run Tryd.hU Tryd.func61 (fun _ _ _ hB => ?_)
  refine k_seq ?_
  refine k_reg ?_
  refine l_assign ?_
  refine k_nil ?_
  refine f_t ?_
  refine k_seq ?_
  refine k_seq ?_
  refine k_reg ?_
  refine l_move ?_
  refine l_range ?_
  refine k_nil ?_
  refine f_t ?_
  refine k_block ?_
  refine k_loop (fun y1 => ⟨[(1, .fn (.func fk_f) [] fc_f), (2, B truth), (10, .it 1010)], [(1010, .siter ⟨s.toArray⟩ y1)], []⟩) (Sum.elim (fun q3 => (.ret, ⟨[(6, I q3)], [], []⟩)) (fun q4 => (.exit 0, ⟨[], [], []⟩))) [(1010, 1010)] hB h (fun y1 t h => ?_) (fun q h => ?_)
  · unfold strings_indexFunc_b1 at h
    refine k_seq ?_
    refine k_reg ?_
    refine l_next h (fun _ h => ?_) (fun _ h => ?_)
    · refine l_extract ?_
      refine k_nil ?_
      refine f_t ?_
      refine k_seq ?_
      refine k_t ?_
      refine k_skip ?_
      refine f_t ?_
      refine k_block ?_
      refine k_seq ?_
      refine k_reg ?_
      refine l_extract ?_
      refine l_extract ?_
      refine l_assign ?_
      refine l_assign ?_
      refine k_nil ?_
      refine f_t ?_
      refine k_seq ?_
      refine k_reg ?_
      refine l_move ?_
      refine l_move ?_
      refine l_callF hc_f h (fun _ => hf_f) (fun v2 _ h => ?_)
      refine l_move ?_
      refine l_bool ?_
      refine k_nil ?_
      refine f_t ?_
      refine k_if h (fun _ h => ?_) (fun _ h => ?_)
      · refine k_seq ?_
        refine k_reg ?_
        refine l_move ?_
        refine l_assign ?_
        refine k_nil ?_
        refine f_t ?_
        refine k_retc ?_
        refine f_br ?_
        exact k_brk [] hB h
      refine k_skip ?_
      refine f_b ?_
      exact k_next [(1010, 1010)] hB h
    refine l_extract ?_
    refine k_nil ?_
    refine f_t ?_
    refine k_seq ?_
    refine k_f ?_
    refine k_exit ?_
    refine f_te ?_
    exact k_brk [] hB h
  rcases q with q3 | q4
  · dsimp only [Sum.elim] at h ⊢
    refine f_br ?_
    refine f_tr ?_
    apply k_ret [] hB h
  dsimp only [Sum.elim] at h ⊢
  refine f_be ?_
  refine f_t ?_
  refine k_seq ?_
  refine k_reg ?_
  refine l_assign ?_
  refine k_nil ?_
  refine f_t ?_
  refine k_retc ?_
  apply k_ret [] hB h
theorem strings_IndexFunc_ok {s : Str} {f : (Int → Option Bool)} {fk_f : Nat} {fc_f : List AV} (hf_f : ∀ {x0 : Int} {r : Bool}, f x0 = some r → XSpec Tryd.prog fk_f ((.pl (.int .i32 x0)) :: fc_f) [] (B r) [] []) (hc_f : AV.closedL fc_f = true ∧ AV.onlyL [] fc_f = true) {r : Int} (h : strings_IndexFunc s f = some r) : XSpec Tryd.prog 38 [S s, .fn (.func fk_f) [] fc_f] [] (I r) [] [] := by
  unfold strings_IndexFunc at h
  refine X_of_run Tryd.hU Tryd.func38 (fun _ _ _ hB => ?_)
  refine k_seq ?_
  refine k_reg ?_
  refine l_assign ?_
  refine k_nil ?_
  refine f_t ?_
  refine k_seq ?_
  refine k_reg ?_
  refine l_move ?_
  refine l_move ?_
  refine l_call h (fun _ => strings_indexFunc_ok (fun h => hf_f h) hc_f) (fun v1 _ h => ?_)
  refine l_assign ?_
  refine k_nil ?_
  refine f_t ?_
  refine k_retc ?_
  apply k_ret [] hB h
theorem value_digits_c1_ok {c : Int} {r : Bool} (h : value_digits_c1 c = some r) : XSpec Tryd.prog 39 [.pl (.int .i32 c)] [] (B r) [] [] := by
  unfold value_digits_c1 at h
  refine X_of_run Tryd.hU Tryd.func39 (fun _ _ _ hB => ?_)
  refine k_seq ?_
  refine k_reg ?_
  refine l_assign ?_
  refine k_nil ?_
  refine f_t ?_
  refine k_seq ?_
  refine k_reg ?_
  refine l_move ?_
  refine l_cmp ?_
  refine l_move ?_
  refine l_split h (fun _ h => ?_) (fun _ h => ?_)
  · refine l_off ?_
    refine l_off ?_
    refine l_pick_true ?_
    refine l_assign ?_
    refine k_nil ?_
    refine f_t ?_
    refine k_retc ?_
    apply k_ret [] hB h
  refine l_on ?_
  refine l_move ?_
  refine l_on ?_
  refine l_cmp ?_
  refine l_pick_false ?_
  refine l_assign ?_
  refine k_nil ?_
  refine f_t ?_
  refine k_retc ?_
  apply k_ret [] hB h
theorem value_digits_ok {s : Str} {r : Bool} (h : value_digits s = some r) : XSpec Tryd.prog 26 [S s] [] (B r) [] [] := by
  unfold value_digits at h
  refine X_of_run Tryd.hU Tryd.func26 (fun _ _ _ hB => ?_)
  refine k_seq ?_
  refine k_reg ?_
  refine l_assign ?_
  refine k_nil ?_
  refine f_t ?_
  refine k_seq ?_
  refine k_reg ?_
  refine l_move ?_
  refine l_call h (fun _ => strings_IndexFunc_ok (fun h => value_digits_c1_ok h) ⟨rfl, rfl⟩) (fun v1 _ h => ?_)
  refine l_cmp ?_
  refine l_assign ?_
  refine k_nil ?_
  refine f_t ?_
  refine k_retc ?_
  apply k_ret [] hB h
theorem value_None_ok {r : TValue} (h : value_None = some r) : XSpec Tryd.prog 16 [] [] (.agg (c_TValue r)) [] [] := by
  unfold value_None at h
  refine X_of_run Tryd.hU Tryd.func16 (fun _ _ _ hB => ?_)
  refine k_seq ?_
  refine k_reg ?_
  refine l_alloc ?_
  refine k_nil ?_
  refine f_t ?_
  refine k_seq ?_
  refine k_reg ?_
  refine l_build ?_
  refine l_store_box ?_
  refine k_nil ?_
  refine f_t ?_
  refine k_retc ?_
  apply k_retN [] hB h
theorem strings_trimRightByte_ok {s : Str} {c : UInt8} {r : Str} (h : strings_trimRightByte s c = some r) : XSpec Tryd.prog 41 [S s, U c] [] (S r) [] [] := by
  unfold strings_trimRightByte at h
  refine X_of_run Tryd.hU Tryd.func41 (fun _ _ _ hB => ?_)
  refine k_seq ?_
  refine k_reg ?_
  refine l_assign ?_
  refine k_nil ?_
  refine f_t ?_
  refine k_seq ?_
  refine k_block ?_
  refine k_loop (fun y1 => ⟨[(0, S y1), (1, U c)], [], []⟩) (fun q4 => (.exit 0, ⟨[(0, S q4)], [], []⟩)) [] hB h (fun y1 t h => ?_) (fun q4 h => ?_)
  · unfold strings_trimRightByte_b1 at h
    refine k_seq ?_
    refine k_seq ?_
    refine k_reg ?_
    refine l_move ?_
    refine l_lens ?_
    refine l_cmp ?_
    refine l_move ?_
    refine l_split h (fun _ h => ?_) (fun _ h => ?_)
    · refine l_on ?_
      refine l_move ?_
      refine l_on ?_
      refine l_move ?_
      refine l_on ?_
      refine l_lens ?_
      refine l_on ?_
      refine l_subw ?_
      refine l_on ?_
      refine l_ats h (fun v2 _ h => ?_)
      refine l_on ?_
      refine l_move ?_
      refine l_on ?_
      refine l_cmp ?_
      refine l_pick_true ?_
      refine k_nil ?_
      refine f_t ?_
      refine k_if h (fun _ h => ?_) (fun _ h => ?_)
      · refine k_skip ?_
        refine f_t ?_
        refine k_block ?_
        refine k_reg ?_
        refine l_move ?_
        refine l_move ?_
        refine l_lens ?_
        refine l_subw ?_
        refine l_subs h (fun v3 _ h => ?_)
        refine l_assign ?_
        refine k_nil ?_
        refine f_b ?_
        exact k_next [] hB h
      refine k_exit ?_
      refine f_te ?_
      exact k_brk [] hB h
    refine l_off ?_
    refine l_off ?_
    refine l_off ?_
    refine l_off ?_
    refine l_off ?_
    refine l_off ?_
    refine l_off ?_
    refine l_pick_false ?_
    refine k_nil ?_
    refine f_t ?_
    refine k_f ?_
    refine k_exit ?_
    refine f_te ?_
    exact k_brk [] hB h
  refine f_be ?_
  refine f_t ?_
  refine k_seq ?_
  refine k_reg ?_
  refine l_move ?_
  refine l_assign ?_
  refine k_nil ?_
  refine f_t ?_
  refine k_retc ?_
  apply k_ret [] hB h
theorem strings_trimLeftByte_ok {s : Str} {c : UInt8} {r : Str} (h : strings_trimLeftByte s c = some r) : XSpec Tryd.prog 40 [S s, U c] [] (S r) [] [] := by
  unfold strings_trimLeftByte at h
  refine X_of_run Tryd.hU Tryd.func40 (fun _ _ _ hB => ?_)
  refine k_seq ?_
  refine k_reg ?_
  refine l_assign ?_
  refine k_nil ?_
  refine f_t ?_
  refine k_seq ?_
  refine k_block ?_
  refine k_loop (fun y1 => ⟨[(0, S y1), (1, U c)], [], []⟩) (fun q4 => (.exit 0, ⟨[(0, S q4)], [], []⟩)) [] hB h (fun y1 t h => ?_) (fun q4 h => ?_)
  · unfold strings_trimLeftByte_b1 at h
    refine k_seq ?_
    refine k_seq ?_
    refine k_reg ?_
    refine l_move ?_
    refine l_lens ?_
    refine l_cmp ?_
    refine l_move ?_
    refine l_split h (fun _ h => ?_) (fun _ h => ?_)
    · refine l_on ?_
      refine l_move ?_
      refine l_on ?_
      refine l_ats h (fun v2 _ h => ?_)
      refine l_on ?_
      refine l_move ?_
      refine l_on ?_
      refine l_cmp ?_
      refine l_pick_true ?_
      refine k_nil ?_
      refine f_t ?_
      refine k_if h (fun _ h => ?_) (fun _ h => ?_)
      · refine k_skip ?_
        refine f_t ?_
        refine k_block ?_
        refine k_reg ?_
        refine l_move ?_
        refine l_subs h (fun v3 _ h => ?_)
        refine l_assign ?_
        refine k_nil ?_
        refine f_b ?_
        exact k_next [] hB h
      refine k_exit ?_
      refine f_te ?_
      exact k_brk [] hB h
    refine l_off ?_
    refine l_off ?_
    refine l_off ?_
    refine l_off ?_
    refine l_pick_false ?_
    refine k_nil ?_
    refine f_t ?_
    refine k_f ?_
    refine k_exit ?_
    refine f_te ?_
    exact k_brk [] hB h
  refine f_be ?_
  refine f_t ?_
  refine k_seq ?_
  refine k_reg ?_
  refine l_move ?_
  refine l_assign ?_
  refine k_nil ?_
  refine f_t ?_
  refine k_retc ?_
  apply k_ret [] hB h
theorem utf8_decodeRuneInStringSlow_ok {s : Str} {r : Int × Int} (h : utf8_decodeRuneInStringSlow s = some r) : XSpec Tryd.prog 85 [S s] [] (.tup [.pl (.int .i32 r.1), I r.2]) [] [] := by
  unfold utf8_decodeRuneInStringSlow at h
  refine X_of_run Tryd.hU Tryd.func85 (fun _ _ _ hB => ?_)
  refine k_seq ?_
  refine k_reg ?_
  refine l_assign ?_
  refine l_assign ?_
  refine k_nil ?_
  refine f_t ?_
  refine k_seq ?_
  refine k_reg ?_
  refine l_move ?_
  refine l_lens ?_
  refine l_assign ?_
  refine k_nil ?_
  refine f_t ?_
  refine k_seq ?_
  refine k_seq ?_
  refine k_reg ?_
  refine l_move ?_
  refine l_cmp ?_
  refine k_nil ?_
  refine f_t ?_
  refine k_if h (fun _ h => ?_) (fun _ h => ?_)
  · refine k_seq ?_
    refine k_reg ?_
    refine l_assign ?_
    refine l_assign ?_
    refine k_nil ?_
    refine f_t ?_
    refine k_retc ?_
    refine f_tr ?_
    apply k_ret [] hB h
  refine k_skip ?_
  refine f_t ?_
  refine k_seq ?_
  refine k_reg ?_
  refine l_move ?_
  cases h
theorem utf8_DecodeRuneInString_ok {s : Str} {r : Int × Int} (h : utf8_DecodeRuneInString s = some r) : XSpec Tryd.prog 63 [S s] [] (.tup [.pl (.int .i32 r.1), I r.2]) [] [] := by
  unfold utf8_DecodeRuneInString at h
  refine X_of_run Tryd.hU Tryd.func63 (fun _ _ _ hB => ?_)
  refine k_seq ?_
  refine k_reg ?_
  refine l_assign ?_
  refine l_assign ?_
  refine k_nil ?_
  refine f_t ?_
  refine k_seq ?_
  refine k_seq ?_
  refine k_reg ?_
  refine l_move ?_
  refine l_sne ?_
  refine l_move ?_
  refine l_split h (fun _ h => ?_) (fun _ h => ?_)
  · refine l_on ?_
    refine l_move ?_
    refine l_on ?_
    refine l_ats h (fun v1 _ h => ?_)
    refine l_on ?_
    refine l_cmp ?_
    refine l_pick_true ?_
    refine k_nil ?_
    refine f_t ?_
    refine k_if h (fun _ h => ?_) (fun _ h => ?_)
    · refine k_seq ?_
      refine k_reg ?_
      refine l_move ?_
      refine l_ats h (fun v2 _ h => ?_)
      refine l_conv_int ?_
      refine l_assign ?_
      refine l_assign ?_
      refine k_nil ?_
      refine f_t ?_
      refine k_retc ?_
      refine f_tr ?_
      apply k_ret [] hB h
    refine k_reg ?_
    refine l_move ?_
    refine l_call h (fun _ => utf8_decodeRuneInStringSlow_ok) (fun v3 _ h => ?_)
    refine l_move ?_
    refine l_extract ?_
    refine l_extract ?_
    refine l_assign ?_
    refine l_assign ?_
    refine k_nil ?_
    refine f_t ?_
    refine k_retc ?_
    apply k_ret [] hB h
  refine l_off ?_
  refine l_off ?_
  refine l_off ?_
  refine l_pick_false ?_
  refine k_nil ?_
  refine f_t ?_
  refine k_f ?_
  refine k_reg ?_
  refine l_move ?_
  refine l_call h (fun _ => utf8_decodeRuneInStringSlow_ok) (fun v4 _ h => ?_)
  refine l_move ?_
  refine l_extract ?_
  refine l_extract ?_
  refine l_assign ?_
  refine l_assign ?_
  refine k_nil ?_
  refine f_t ?_
  refine k_retc ?_
  apply k_ret [] hB h
theorem utf8_DecodeLastRuneInString_ok {s : Str} {r : Int × Int} (h : utf8_DecodeLastRuneInString s = some r) : XSpec Tryd.prog 65 [S s] [] (.tup [.pl (.int .i32 r.1), I r.2]) [] [] := by
  unfold utf8_DecodeLastRuneInString at h
  refine X_of_run Tryd.hU Tryd.func65 (fun _ _ _ hB => ?_)
  refine k_seq ?_
  refine k_reg ?_
  refine l_assign ?_
  refine l_assign ?_
  refine k_nil ?_
  refine f_t ?_
  refine k_seq ?_
  refine k_reg ?_
  refine l_move ?_
  refine l_lens ?_
  refine l_assign ?_
  refine k_nil ?_
  refine f_t ?_
  refine k_seq ?_
  refine k_seq ?_
  refine k_reg ?_
  refine l_move ?_
  refine l_cmp ?_
  refine k_nil ?_
  refine f_t ?_
  refine k_if h (fun _ h => ?_) (fun _ h => ?_)
  · refine k_seq ?_
    refine k_reg ?_
    refine l_assign ?_
    refine l_assign ?_
    refine k_nil ?_
    refine f_t ?_
    refine k_retc ?_
    refine f_tr ?_
    apply k_ret [] hB h
  refine k_skip ?_
  refine f_t ?_
  refine k_seq ?_
  refine k_reg ?_
  refine l_move ?_
  refine l_subw ?_
  refine l_assign ?_
  refine k_nil ?_
  refine f_t ?_
  refine k_seq ?_
  refine k_reg ?_
  refine l_move ?_
  refine l_move ?_
  refine l_ats h (fun v1 _ h => ?_)
  refine l_conv_int ?_
  refine l_assign ?_
  refine k_nil ?_
  refine f_t ?_
  refine k_seq ?_
  refine k_seq ?_
  refine k_reg ?_
  refine l_move ?_
  refine l_cmp ?_
  refine k_nil ?_
  refine f_t ?_
  refine k_if h (fun _ h => ?_) (fun _ h => ?_)
  · refine k_seq ?_
    refine k_reg ?_
    refine l_move ?_
    refine l_assign ?_
    refine l_assign ?_
    refine k_nil ?_
    refine f_t ?_
    refine k_retc ?_
    refine f_tr ?_
    apply k_ret [] hB h
  refine k_skip ?_
  refine f_t ?_
  refine k_seq ?_
  refine k_reg ?_
  refine l_move ?_
  refine l_subw ?_
  refine l_max2 ?_
  refine l_assign ?_
  refine k_nil ?_
  refine f_t ?_
  refine k_seq ?_
  refine k_seq ?_
  refine k_reg ?_
  refine l_move ?_
  refine l_subw ?_
  refine l_assign ?_
  refine k_nil ?_
  refine f_t ?_
  refine k_block ?_
  refine k_loop (fun y2 => ⟨[(0, S s), (4, I (s.length : Int)), (5, I (w64 ((w64 ((s.length : Int) - 1)) - 1))), (6, I (mx (w64 ((s.length : Int) - 4)) 0))], [], []⟩) (fun q4 => (.exit 0, ⟨[(0, S s), (4, I (s.length : Int)), (5, I (w64 ((w64 ((s.length : Int) - 1)) - 1)))], [], []⟩)) [] hB h (fun y2 t h => ?_) (fun q4 h => ?_)
  · unfold utf8_DecodeLastRuneInString_b1 at h
    refine k_seq ?_
    refine k_seq ?_
    refine k_reg ?_
    refine l_move ?_
    refine l_move ?_
    refine l_cmp ?_
    refine k_nil ?_
    refine f_t ?_
    refine k_if h (fun _ h => ?_) (fun _ h => ?_)
    · refine k_skip ?_
      refine f_t ?_
      refine k_seq ?_
      refine k_block ?_
      refine k_seq ?_
      refine k_reg ?_
      refine l_move ?_
      refine l_move ?_
      cases h
    refine k_exit ?_
    refine f_te ?_
    exact k_brk [] hB h
  refine f_be ?_
  refine f_t ?_
  refine k_seq ?_
  refine k_seq ?_
  refine k_reg ?_
  refine l_move ?_
  refine l_cmp ?_
  refine k_nil ?_
  refine f_t ?_
  refine k_if h (fun _ h => ?_) (fun _ h => ?_)
  · refine k_reg ?_
    refine l_assign ?_
    refine k_nil ?_
    refine f_t ?_
    refine k_seq ?_
    refine k_reg ?_
    refine l_move ?_
    refine l_move ?_
    refine l_move ?_
    refine l_subs h (fun v5 _ h => ?_)
    refine l_call h (fun _ => utf8_DecodeRuneInString_ok) (fun v6 _ h => ?_)
    refine l_move ?_
    refine l_extract ?_
    refine l_extract ?_
    refine l_assign ?_
    refine l_assign ?_
    refine k_nil ?_
    refine f_t ?_
    refine k_seq ?_
    refine k_seq ?_
    refine k_reg ?_
    refine l_move ?_
    refine l_move ?_
    refine l_addw ?_
    refine l_move ?_
    refine l_cmp ?_
    refine k_nil ?_
    refine f_t ?_
    refine k_if h (fun _ h => ?_) (fun _ h => ?_)
    · refine k_seq ?_
      refine k_reg ?_
      refine l_assign ?_
      refine l_assign ?_
      refine k_nil ?_
      refine f_t ?_
      refine k_retc ?_
      refine f_tr ?_
      apply k_ret [] hB h
    refine k_skip ?_
    refine f_t ?_
    refine k_seq ?_
    refine k_reg ?_
    refine l_move ?_
    refine l_move ?_
    refine l_assign ?_
    refine l_assign ?_
    refine k_nil ?_
    refine f_t ?_
    refine k_retc ?_
    apply k_ret [] hB h
  refine k_skip ?_
  refine f_t ?_
  refine k_seq ?_
  refine k_reg ?_
  refine l_move ?_
  refine l_move ?_
  refine l_move ?_
  refine l_subs h (fun v7 _ h => ?_)
  refine l_call h (fun _ => utf8_DecodeRuneInString_ok) (fun v8 _ h => ?_)
  refine l_move ?_
  refine l_extract ?_
  refine l_extract ?_
  refine l_assign ?_
  refine l_assign ?_
  refine k_nil ?_
  refine f_t ?_
  refine k_seq ?_
  refine k_seq ?_
  refine k_reg ?_
  refine l_move ?_
  refine l_move ?_
  refine l_addw ?_
  refine l_move ?_
  refine l_cmp ?_
  refine k_nil ?_
  refine f_t ?_
  refine k_if h (fun _ h => ?_) (fun _ h => ?_)
  · refine k_seq ?_
    refine k_reg ?_
    refine l_assign ?_
    refine l_assign ?_
    refine k_nil ?_
    refine f_t ?_
    refine k_retc ?_
    refine f_tr ?_
    apply k_ret [] hB h
  refine k_skip ?_
  refine f_t ?_
  refine k_seq ?_
  refine k_reg ?_
  refine l_move ?_
  refine l_move ?_
  refine l_assign ?_
  refine l_assign ?_
  refine k_nil ?_
  refine f_t ?_
  refine k_retc ?_
  apply k_ret [] hB h
theorem strings_trimRightUnicode_ok {s : Str} {cutset : Str} {r : Str} (h : strings_trimRightUnicode s cutset = some r) : XSpec Tryd.prog 46 [S s, S cutset] [] (S r) [] [] := by
  unfold strings_trimRightUnicode at h
  refine X_of_run Tryd.hU Tryd.func46 (fun _ _ _ hB => ?_)
  refine k_seq ?_
  refine k_reg ?_
  refine l_assign ?_
  refine k_nil ?_
  refine f_t ?_
  refine k_seq ?_
  refine k_block ?_
  refine k_loop (fun y1 => ⟨[(0, S s), (1, S cutset)], [], []⟩) (fun q4 => (.exit 0, ⟨[(0, S s)], [], []⟩)) [] hB h (fun y1 t h => ?_) (fun q4 h => ?_)
  · unfold strings_trimRightUnicode_b1 at h
    refine k_seq ?_
    refine k_seq ?_
    refine k_reg ?_
    refine l_move ?_
    refine l_lens ?_
    refine l_cmp ?_
    refine k_nil ?_
    refine f_t ?_
    refine k_if h (fun _ h => ?_) (fun _ h => ?_)
    · refine k_skip ?_
      refine f_t ?_
      refine k_block ?_
      refine k_seq ?_
      refine k_reg ?_
      refine l_move ?_
      refine l_move ?_
      refine l_lens ?_
      refine l_subw ?_
      cases h
    refine k_exit ?_
    refine f_te ?_
    exact k_brk [] hB h
  refine f_be ?_
  refine f_t ?_
  refine k_seq ?_
  refine k_reg ?_
  refine l_move ?_
  refine l_assign ?_
  refine k_nil ?_
  refine f_t ?_
  refine k_retc ?_
  apply k_ret [] hB h
theorem strings_trimLeftUnicode_ok {s : Str} {cutset : Str} {r : Str} (h : strings_trimLeftUnicode s cutset = some r) : XSpec Tryd.prog 45 [S s, S cutset] [] (S r) [] [] := by
  unfold strings_trimLeftUnicode at h
  refine X_of_run Tryd.hU Tryd.func45 (fun _ _ _ hB => ?_)
  refine k_seq ?_
  refine k_reg ?_
  refine l_assign ?_
  refine k_nil ?_
  refine f_t ?_
  refine k_seq ?_
  refine k_block ?_
  refine k_loop (fun y1 => ⟨[(0, S s), (1, S cutset)], [], []⟩) (fun q3 => (.exit 0, ⟨[(0, S s)], [], []⟩)) [] hB h (fun y1 t h => ?_) (fun q3 h => ?_)
  · unfold strings_trimLeftUnicode_b1 at h
    refine k_seq ?_
    refine k_seq ?_
    refine k_reg ?_
    refine l_move ?_
    refine l_lens ?_
    refine l_cmp ?_
    refine k_nil ?_
    refine f_t ?_
    refine k_if h (fun _ h => ?_) (fun _ h => ?_)
    · refine k_skip ?_
      refine f_t ?_
      refine k_block ?_
      refine k_seq ?_
      refine k_reg ?_
      refine l_move ?_
      cases h
    refine k_exit ?_
    refine f_te ?_
    exact k_brk [] hB h
  refine f_be ?_
  refine f_t ?_
  refine k_seq ?_
  refine k_reg ?_
  refine l_move ?_
  refine l_assign ?_
  refine k_nil ?_
  refine f_t ?_
  refine k_retc ?_
  apply k_ret [] hB h
theorem strings_Trim_ok {s : Str} {cutset : Str} {r : Str} (h : strings_Trim s cutset = some r) : XSpec Tryd.prog 27 [S s, S cutset] [] (S r) [] [] := by
  unfold strings_Trim at h
  refine X_of_run Tryd.hU Tryd.func27 (fun _ _ _ hB => ?_)
  refine k_seq ?_
  refine k_reg ?_
  refine l_assign ?_
  refine k_nil ?_
  refine f_t ?_
  refine k_seq ?_
  refine k_seq ?_
  refine k_cut (fun q1 => (.normal, ⟨[(0, S s), (1, S cutset), (12, B q1)], [], []⟩)) h (fun t h => ?_) (fun q1 h => ?_)
  · refine k_reg ?_
    refine l_move ?_
    refine l_seq ?_
    refine l_move ?_
    refine l_split h (fun _ h => ?_) (fun _ h => ?_)
    · refine l_off ?_
      refine l_off ?_
      refine l_pick_true ?_
      refine k_nil ?_
      exact k_out [] hB h
    refine l_on ?_
    refine l_move ?_
    refine l_on ?_
    refine l_seq ?_
    refine l_pick_false ?_
    refine k_nil ?_
    exact k_out [] hB h
  refine f_t ?_
  refine k_if h (fun _ h => ?_) (fun _ h => ?_)
  · refine k_seq ?_
    refine k_reg ?_
    refine l_move ?_
    refine l_assign ?_
    refine k_nil ?_
    refine f_t ?_
    refine k_retc ?_
    refine f_tr ?_
    apply k_ret [] hB h
  refine k_skip ?_
  refine f_t ?_
  refine k_seq ?_
  refine k_seq ?_
  refine k_cut (fun q3 => (.normal, ⟨[(0, S s), (1, S cutset), (21, B q3)], [], []⟩)) h (fun t h => ?_) (fun q3 h => ?_)
  · refine k_reg ?_
    refine l_move ?_
    refine l_lens ?_
    refine l_cmp ?_
    refine l_move ?_
    refine l_split h (fun _ h => ?_) (fun _ h => ?_)
    · refine l_on ?_
      refine l_move ?_
      refine l_on ?_
      refine l_ats h (fun v2 _ h => ?_)
      refine l_on ?_
      refine l_cmp ?_
      refine l_pick_true ?_
      refine k_nil ?_
      exact k_out [] hB h
    refine l_off ?_
    refine l_off ?_
    refine l_off ?_
    refine l_pick_false ?_
    refine k_nil ?_
    exact k_out [] hB h
  refine f_t ?_
  refine k_if h (fun _ h => ?_) (fun _ h => ?_)
  · refine k_seq ?_
    refine k_mix [] (.q 0 (.q 1 (.q 2 (.q 4 (.q 5 (.e 3 (.e 6 (.q 7 (.done))))))))) hm ?_
    refine gq ?_
    refine n_move ?_
    refine gq ?_
    refine n_move ?_
    refine gq ?_
    refine n_ats h (fun v4 _ h => ?_)
    refine gq ?_
    refine n_move ?_
    refine gq ?_
    refine n_ats h (fun v5 _ h => ?_)
    refine ge ?_
    refine n_call h (fun _ => strings_trimRightByte_ok) (fun v6 _ h => ?_)
    refine ge ?_
    refine n_call h (fun _ => strings_trimLeftByte_ok) (fun v7 _ h => ?_)
    refine gq ?_
    refine n_assign ?_
    refine m_nil ?_
    refine f_t ?_
    refine k_retc ?_
    refine f_tr ?_
    apply k_ret [] hB h
  refine k_skip ?_
  refine f_t ?_
  refine k_seq ?_
  refine k_seq ?_
  refine k_reg ?_
  refine l_move ?_
  cases h
theorem value_OfNumber_ok {n : Int} {r : TValue × Int} (h : value_OfNumber n = some r) : XSpec Tryd.prog 14 [I n] [] (.tup [.agg (c_TValue r.1), I r.2]) [] [] := by
  unfold value_OfNumber at h
  refine X_of_run Tryd.hU Tryd.func14 (fun _ _ _ hB => ?_)
  refine k_seq ?_
  refine k_reg ?_
  refine l_alloc ?_
  refine l_assign ?_
  refine k_nil ?_
  refine f_t ?_
  refine k_seq ?_
  refine k_seq ?_
  refine k_reg ?_
  refine l_move ?_
  refine l_cmp ?_
  refine l_move ?_
  refine l_split h (fun _ h => ?_) (fun _ h => ?_)
  · refine l_off ?_
    refine l_off ?_
    refine l_pick_true ?_
    refine k_nil ?_
    refine f_t ?_
    refine k_t ?_
    refine k_seq ?_
    refine k_reg ?_
    refine l_build ?_
    refine l_store_box ?_
    refine l_assign ?_
    refine k_nil ?_
    refine f_t ?_
    refine k_retc ?_
    refine f_tr ?_
    apply k_retN [] hB h
  refine l_on ?_
  refine l_move ?_
  refine l_on ?_
  refine l_cmp ?_
  refine l_pick_false ?_
  refine k_nil ?_
  refine f_t ?_
  refine k_if h (fun _ h => ?_) (fun _ h => ?_)
  · refine k_seq ?_
    refine k_reg ?_
    refine l_build ?_
    refine l_store_box ?_
    refine l_assign ?_
    refine k_nil ?_
    refine f_t ?_
    refine k_retc ?_
    refine f_tr ?_
    apply k_retN [] hB h
  refine k_skip ?_
  refine f_t ?_
  refine k_seq ?_
  refine k_reg ?_
  refine l_move ?_
  refine l_build ?_
  refine l_store_box ?_
  refine l_assign ?_
  refine k_nil ?_
  refine f_t ?_
  refine k_retc ?_
  apply k_retN [] hB h
theorem value_Read_ok {s : Str} {r : TValue × Int} (h : value_Read s = some r) : XSpec Tryd.prog 8 [S s] [] (.tup [.agg (c_TValue r.1), I r.2]) [] [] := by
  unfold value_Read at h
  refine X_of_run Tryd.hU Tryd.func8 (fun _ _ _ hB => ?_)
  refine k_seq ?_
  refine k_reg ?_
  refine l_alloc ?_
  refine l_assign ?_
  refine k_nil ?_
  refine f_t ?_
  refine k_seq ?_
  refine k_reg ?_
  refine l_move ?_
  refine l_call h (fun _ => name_Trim_ok) (fun v1 _ h => ?_)
  refine l_assign ?_
  refine k_nil ?_
  refine f_t ?_
  refine k_seq ?_
  refine k_reg ?_
  refine l_move ?_
  refine l_call h (fun _ => strings_CutPrefix_ok) (fun v2 _ h => ?_)
  refine l_move ?_
  refine l_extract ?_
  refine l_extract ?_
  refine l_assign ?_
  refine l_assign ?_
  refine k_nil ?_
  refine f_t ?_
  refine k_seq ?_
  refine k_reg ?_
  refine l_move ?_
  refine l_call h (fun _ => strings_Cut_ok) (fun v3 _ h => ?_)
  refine l_move ?_
  refine l_extract ?_
  refine l_extract ?_
  refine l_extract ?_
  refine l_assign ?_
  refine l_assign ?_
  refine l_assign ?_
  refine k_nil ?_
  refine f_t ?_
  refine k_seq ?_
  refine k_seq ?_
  refine k_cut (fun q6 => (.normal, ⟨[(2, .ptr 1002 0), (5, B v2.2), (6, S v3.1), (7, S v3.2.1), (40, B q6)], [(1002, .box [I 0, .pl (.slice none 0 0), B false, I 0, B false, S []])], []⟩)) h (fun t h => ?_) (fun q6 h => ?_)
  · refine k_reg ?_
    refine l_move ?_
    refine l_call h (fun _ => value_digits_ok) (fun v4 _ h => ?_)
    refine l_un ?_
    refine l_move ?_
    refine l_split h (fun _ h => ?_) (fun _ h => ?_)
    · refine l_off ?_
      refine l_off ?_
      refine l_off ?_
      refine l_pick_true ?_
      refine l_move ?_
      refine l_off ?_
      refine l_off ?_
      refine l_off ?_
      refine l_off ?_
      refine l_off ?_
      refine l_off ?_
      refine l_pick_true ?_
      refine k_nil ?_
      exact k_out [(1002, 1002)] hB h
    refine l_on ?_
    refine l_move ?_
    refine l_on ?_
    refine l_call h (fun _ => value_digits_ok) (fun v5 _ h => ?_)
    refine l_to [(1002, 1002)] ⟨[(2, .ptr 1002 0), (5, B v2.2), (6, S v3.1), (7, S v3.2.1), (28, B false), (30, B v5)], [(1002, .box [I 0, .pl (.slice none 0 0), B false, I 0, B false, S []])], []⟩ hB ?_
    refine l_on ?_
    refine l_un ?_
    refine l_pick_false ?_
    refine l_move ?_
    refine l_split h (fun _ h => ?_) (fun _ h => ?_)
    · refine l_off ?_
      refine l_off ?_
      refine l_off ?_
      refine l_off ?_
      refine l_off ?_
      refine l_off ?_
      refine l_pick_true ?_
      refine k_nil ?_
      exact k_out [(1002, 1002)] hB h
    refine l_on ?_
    refine l_move ?_
    refine l_on ?_
    refine l_seq ?_
    refine l_on ?_
    refine l_move ?_
    refine l_split h (fun _ h => ?_) (fun _ h => ?_)
    · refine l_on ?_
      refine l_move ?_
      refine l_on ?_
      refine l_seq ?_
      refine l_on ?_
      refine l_pick_true ?_
      refine l_pick_false ?_
      refine k_nil ?_
      exact k_out [(1002, 1002)] hB h
    refine l_off ?_
    refine l_off ?_
    refine l_on ?_
    refine l_pick_false ?_
    refine l_pick_false ?_
    refine k_nil ?_
    exact k_out [(1002, 1002)] hB h
  refine f_t ?_
  refine k_if h (fun _ h => ?_) (fun _ h => ?_)
  · refine k_seq ?_
    refine k_reg ?_
    refine l_call h (fun _ => value_None_ok) (fun v7 _ h => ?_)
    refine l_store_box ?_
    refine l_assign ?_
    refine k_nil ?_
    refine f_t ?_
    refine k_retc ?_
    refine f_tr ?_
    apply k_ret [] hB h
  refine k_skip ?_
  refine f_t ?_
  refine k_seq ?_
  refine k_seq ?_
  refine k_reg ?_
  refine l_move ?_
  refine l_call h (fun _ => strings_Trim_ok) (fun v8 _ h => ?_)
  refine l_sne ?_
  refine k_nil ?_
  refine f_t ?_
  refine k_if h (fun _ h => ?_) (fun _ h => ?_)
  · refine k_seq ?_
    refine k_reg ?_
    refine l_build ?_
    refine l_store_box ?_
    refine l_assign ?_
    refine k_nil ?_
    refine f_t ?_
    refine k_retc ?_
    refine f_tr ?_
    apply k_retN [] hB h
  refine k_skip ?_
  refine f_t ?_
  refine k_seq ?_
  refine k_reg ?_
  refine l_assign ?_
  refine k_nil ?_
  refine f_t ?_
  refine k_seq ?_
  refine k_seq ?_
  refine k_reg ?_
  refine l_move ?_
  refine l_strb ?_
  refine l_len ?_
  refine l_move ?_
  refine k_nil ?_
  refine f_t ?_
  refine k_block ?_
  refine k_loop (fun y9 => ⟨[(2, .ptr 1002 0), (5, B v2.2), (9, I y9.1), (47, .sl 1047 0 v3.1.length), (48, I (v3.1.length : Int)), (49, I y9.2)], [(1002, .box [I 0, .pl (.slice none 0 0), B false, I 0, B false, S []]), (1047, .row 1 0 (F cU v3.1))], []⟩) (fun q11 => (.exit 0, ⟨[(2, .ptr 1002 0), (5, B v2.2), (9, I q11)], [(1002, .box [I 0, .pl (.slice none 0 0), B false, I 0, B false, S []])], []⟩)) [(1002, 1002), (1047, 1047)] hB h (fun y9 t h => ?_) (fun q11 h => ?_)
  · unfold value_Read_b1 at h
    refine k_seq ?_
    refine k_reg ?_
    refine l_cmp ?_
    refine k_nil ?_
    refine f_t ?_
    refine k_seq ?_
    refine k_if h (fun _ h => ?_) (fun _ h => ?_)
    · refine k_skip ?_
      refine f_t ?_
      refine k_seq ?_
      refine k_block ?_
      refine k_seq ?_
      refine k_reg ?_
      refine l_ato h (fun v10 ev10 h => ?_)
      refine l_ldr0 ev10 ?_
      refine l_assign ?_
      refine k_nil ?_
      refine f_t ?_
      refine k_reg ?_
      refine l_move ?_
      refine l_mulw ?_
      refine l_move ?_
      refine l_subU v10 48 ?_
      refine l_conv_int ?_
      refine l_addw ?_
      refine l_min2 ?_
      refine l_assign ?_
      refine k_nil ?_
      refine f_b ?_
      refine f_t ?_
      refine k_reg ?_
      refine l_addw ?_
      refine l_move ?_
      refine k_nil ?_
      exact k_next [(1002, 1002), (1047, 1047)] hB h
    refine k_exit ?_
    refine f_te ?_
    exact k_brk [(1002, 1002)] hB h
  refine f_be ?_
  refine f_t ?_
  refine k_seq ?_
  refine k_seq ?_
  refine k_reg ?_
  refine l_move ?_
  refine k_nil ?_
  refine f_t ?_
  refine k_if h (fun _ h => ?_) (fun _ h => ?_)
  · refine k_reg ?_
    refine l_move ?_
    refine l_un ?_
    refine l_assign ?_
    refine k_nil ?_
    refine f_t ?_
    refine k_seq ?_
    refine k_reg ?_
    refine l_move ?_
    refine l_call h (fun _ => value_OfNumber_ok) (fun v12 _ h => ?_)
    refine l_extract ?_
    refine l_extract ?_
    refine l_store_box ?_
    refine l_assign ?_
    refine k_nil ?_
    refine f_t ?_
    refine k_retc ?_
    apply k_ret [] hB h
  refine k_skip ?_
  refine f_t ?_
  refine k_seq ?_
  refine k_reg ?_
  refine l_move ?_
  refine l_call h (fun _ => value_OfNumber_ok) (fun v13 _ h => ?_)
  refine l_extract ?_
  refine l_extract ?_
  refine l_store_box ?_
  refine l_assign ?_
  refine k_nil ?_
  refine f_t ?_
  refine k_retc ?_
  apply k_ret [] hB h
theorem slices_Equal_Point_ok {s1 : (List TPoint)} {s2 : (List TPoint)} {r : Bool} (h : slices_Equal_Point s1 s2 = some r) : XSpec Tryd.prog 32 [.vs s1.length (F c_TPoint s1), .vs s2.length (F c_TPoint s2)] [] (B r) [] [] := by
  unfold slices_Equal_Point at h
  refine X_of_run Tryd.hU Tryd.func32 (fun _ _ _ hB => ?_)
  refine k_seq ?_
  refine k_reg ?_
  refine l_assign ?_
  refine k_nil ?_
  refine f_t ?_
  refine k_seq ?_
  refine k_seq ?_
  refine k_reg ?_
  refine l_move ?_
  refine l_len ?_
  refine l_move ?_
  refine l_len ?_
  refine l_cmp ?_
  refine k_nil ?_
  refine f_t ?_
  refine k_if h (fun _ h => ?_) (fun _ h => ?_)
  · refine k_seq ?_
    refine k_reg ?_
    refine l_assign ?_
    refine k_nil ?_
    refine f_t ?_
    refine k_retc ?_
    refine f_tr ?_
    apply k_ret [] hB h
  refine k_skip ?_
  refine f_t ?_
  refine k_seq ?_
  refine k_seq ?_
  refine k_reg ?_
  refine l_move ?_
  refine l_len ?_
  refine l_move ?_
  refine k_nil ?_
  refine f_t ?_
  refine k_block ?_
  refine k_loop (fun y1 => ⟨[(0, .vs s1.length (F c_TPoint s1)), (1, .vs s2.length (F c_TPoint s2)), (12, I (s1.length : Int)), (13, I y1)], [], []⟩) (Sum.elim (fun q4 => (.ret, ⟨[(4, B false)], [], []⟩)) (fun q5 => (.exit 0, ⟨[], [], []⟩))) [] hB h (fun y1 t h => ?_) (fun q h => ?_)
  · unfold slices_Equal_Point_b1 at h
    refine k_seq ?_
    refine k_reg ?_
    refine l_cmp ?_
    refine k_nil ?_
    refine f_t ?_
    refine k_seq ?_
    refine k_if h (fun _ h => ?_) (fun _ h => ?_)
    · refine k_skip ?_
      refine f_t ?_
      refine k_seq ?_
      refine k_block ?_
      refine k_seq ?_
      refine k_reg ?_
      refine l_move ?_
      refine l_assign ?_
      refine k_nil ?_
      refine f_t ?_
      refine k_seq ?_
      refine k_mix [] (.q 0 (.q 1 (.q 2 (.q 3 (.q 4 (.q 5 (.q 6 (.q 7 (.q 8 (.done)))))))))) hm ?_
      refine gq ?_
      refine n_move ?_
      refine gq ?_
      refine n_move ?_
      refine gq ?_
      refine n_at h (fun v2 _ h => ?_)
      refine gq ?_
      refine n_load_agg ?_
      refine gq ?_
      refine n_move ?_
      refine gq ?_
      refine n_move ?_
      refine gq ?_
      refine n_at h (fun v3 _ h => ?_)
      refine gq ?_
      refine n_load_agg ?_
      refine gq ?_
      refine n_eqs (k := .i64) (TPoint.ints v2) (TPoint.ints v3) hs60 he60 ?_
      refine m_nil ?_
      refine f_t ?_
      refine k_if h (fun _ h => ?_) (fun _ h => ?_)
      · refine k_seq ?_
        refine k_reg ?_
        refine l_assign ?_
        refine k_nil ?_
        refine f_t ?_
        refine k_retc ?_
        refine f_br ?_
        refine f_tr ?_
        exact k_brk [] hB h
      refine k_skip ?_
      refine f_b ?_
      refine f_t ?_
      refine k_reg ?_
      refine l_addw ?_
      refine l_move ?_
      refine k_nil ?_
      exact k_next [] hB h
    refine k_exit ?_
    refine f_te ?_
    exact k_brk [] hB h
  rcases q with q4 | q5
  · dsimp only [Sum.elim] at h ⊢
    refine f_br ?_
    refine f_tr ?_
    apply k_ret [] hB h
  dsimp only [Sum.elim] at h ⊢
  refine f_be ?_
  refine f_t ?_
  refine k_seq ?_
  refine k_reg ?_
  refine l_assign ?_
  refine k_nil ?_
  refine f_t ?_
  refine k_retc ?_
  apply k_ret [] hB h
theorem value_Same_ok {a : TValue} {b : TValue} {r : Bool} (h : value_Same a b = some r) : XSpec Tryd.prog 19 [.agg (c_TValue a), .agg (c_TValue b)] [] (B r) [] [] := by
  unfold value_Same at h
  refine X_of_run Tryd.hU Tryd.func19 (fun _ _ _ hB => ?_)
  refine k_seq ?_
  refine k_reg ?_
  refine l_box ?_
  refine l_box ?_
  refine l_assign ?_
  refine k_nil ?_
  refine f_t ?_
  refine k_seq ?_
  refine k_reg ?_
  refine l_fieldAddr ?_
  refine l_load ?_
  refine l_fieldAddr ?_
  refine l_load ?_
  refine l_cmp ?_
  refine l_move ?_
  refine l_split h (fun _ h => ?_) (fun _ h => ?_)
  · refine l_on ?_
    refine l_fieldAddr ?_
    refine l_on ?_
    refine l_load ?_
    refine l_on ?_
    refine l_fieldAddr ?_
    refine l_on ?_
    refine l_load ?_
    refine l_on ?_
    refine l_call h (fun _ => slices_Equal_Point_ok) (fun v1 _ h => ?_)
    refine l_pick_true ?_
    refine l_move ?_
    refine l_split h (fun _ h => ?_) (fun _ h => ?_)
    · refine l_on ?_
      refine l_fieldAddr ?_
      refine l_on ?_
      refine l_load ?_
      refine l_on ?_
      refine l_fieldAddr ?_
      refine l_on ?_
      refine l_load ?_
      refine l_on ?_
      refine l_bool ?_
      refine l_pick_true ?_
      refine l_move ?_
      refine l_split h (fun _ h => ?_) (fun _ h => ?_)
      · refine l_on ?_
        refine l_fieldAddr ?_
        refine l_on ?_
        refine l_load ?_
        refine l_on ?_
        refine l_fieldAddr ?_
        refine l_on ?_
        refine l_load ?_
        refine l_on ?_
        refine l_cmp ?_
        refine l_pick_true ?_
        refine l_move ?_
        refine l_split h (fun _ h => ?_) (fun _ h => ?_)
        · refine l_on ?_
          refine l_fieldAddr ?_
          refine l_on ?_
          refine l_load ?_
          refine l_on ?_
          refine l_fieldAddr ?_
          refine l_on ?_
          refine l_load ?_
          refine l_on ?_
          refine l_bool ?_
          refine l_pick_true ?_
          refine l_move ?_
          refine l_split h (fun _ h => ?_) (fun _ h => ?_)
          · refine l_on ?_
            refine l_fieldAddr ?_
            refine l_on ?_
            refine l_load ?_
            refine l_on ?_
            refine l_fieldAddr ?_
            refine l_on ?_
            refine l_load ?_
            refine l_on ?_
            refine l_seq ?_
            refine l_pick_true ?_
            refine l_assign ?_
            refine k_nil ?_
            refine f_t ?_
            refine k_retc ?_
            apply k_ret [] hB h
          refine l_off ?_
          refine l_off ?_
          refine l_off ?_
          refine l_off ?_
          refine l_off ?_
          refine l_pick_false ?_
          refine l_assign ?_
          refine k_nil ?_
          refine f_t ?_
          refine k_retc ?_
          apply k_ret [] hB h
        refine l_off ?_
        refine l_off ?_
        refine l_off ?_
        refine l_off ?_
        refine l_off ?_
        refine l_pick_false ?_
        refine l_move ?_
        refine l_off ?_
        refine l_off ?_
        refine l_off ?_
        refine l_off ?_
        refine l_off ?_
        refine l_pick_false ?_
        refine l_assign ?_
        refine k_nil ?_
        refine f_t ?_
        refine k_retc ?_
        apply k_ret [] hB h
      refine l_off ?_
      refine l_off ?_
      refine l_off ?_
      refine l_off ?_
      refine l_off ?_
      refine l_pick_false ?_
      refine l_move ?_
      refine l_off ?_
      refine l_off ?_
      refine l_off ?_
      refine l_off ?_
      refine l_off ?_
      refine l_pick_false ?_
      refine l_move ?_
      refine l_off ?_
      refine l_off ?_
      refine l_off ?_
      refine l_off ?_
      refine l_off ?_
      refine l_pick_false ?_
      refine l_assign ?_
      refine k_nil ?_
      refine f_t ?_
      refine k_retc ?_
      apply k_ret [] hB h
    refine l_off ?_
    refine l_off ?_
    refine l_off ?_
    refine l_off ?_
    refine l_off ?_
    refine l_pick_false ?_
    refine l_move ?_
    refine l_off ?_
    refine l_off ?_
    refine l_off ?_
    refine l_off ?_
    refine l_off ?_
    refine l_pick_false ?_
    refine l_move ?_
    refine l_off ?_
    refine l_off ?_
    refine l_off ?_
    refine l_off ?_
    refine l_off ?_
    refine l_pick_false ?_
    refine l_move ?_
    refine l_off ?_
    refine l_off ?_
    refine l_off ?_
    refine l_off ?_
    refine l_off ?_
    refine l_pick_false ?_
    refine l_assign ?_
    refine k_nil ?_
    refine f_t ?_
    refine k_retc ?_
    apply k_ret [] hB h
  refine l_off ?_
  refine l_off ?_
  refine l_off ?_
  refine l_off ?_
  refine l_off ?_
  refine l_pick_false ?_
  refine l_move ?_
  refine l_off ?_
  refine l_off ?_
  refine l_off ?_
  refine l_off ?_
  refine l_off ?_
  refine l_pick_false ?_
  refine l_move ?_
  refine l_off ?_
  refine l_off ?_
  refine l_off ?_
  refine l_off ?_
  refine l_off ?_
  refine l_pick_false ?_
  refine l_move ?_
  refine l_off ?_
  refine l_off ?_
  refine l_off ?_
  refine l_off ?_
  refine l_off ?_
  refine l_pick_false ?_
  refine l_move ?_
  refine l_off ?_
  refine l_off ?_
  refine l_off ?_
  refine l_off ?_
  refine l_off ?_
  refine l_pick_false ?_
  refine l_assign ?_
  refine k_nil ?_
  refine f_t ?_
  refine k_retc ?_
  apply k_ret [] hB h
theorem apostillelaw16_awake_ok {r : Bool} (h : apostillelaw16_awake = some r) : XSpec Tryd.prog 7 [] [] (B r) [] [] := by
  unfold apostillelaw16_awake at h
  refine X_of_run Tryd.hU Tryd.func7 (fun _ _ _ hB => ?_)
  refine k_seq ?_
  refine k_reg ?_
  refine l_assign ?_
  refine k_nil ?_
  refine f_t ?_
  refine k_seq ?_
  refine k_reg ?_
  refine l_call h (fun _ => value_Read_ok) (fun v1 _ h => ?_)
  refine l_move ?_
  refine l_extract ?_
  refine l_extract ?_
  refine l_alloc ?_
  refine l_store_box ?_
  refine l_assign ?_
  refine k_nil ?_
  refine f_t ?_
  refine k_seq ?_
  refine k_reg ?_
  refine l_call h (fun _ => value_Read_ok) (fun v2 _ h => ?_)
  refine l_move ?_
  refine l_extract ?_
  refine l_extract ?_
  refine l_alloc ?_
  refine l_store_box ?_
  refine l_assign ?_
  refine k_nil ?_
  refine f_t ?_
  refine k_seq ?_
  refine k_reg ?_
  refine l_move ?_
  refine l_cmp ?_
  refine l_move ?_
  refine l_split h (fun _ h => ?_) (fun _ h => ?_)
  · refine l_on ?_
    refine l_fieldAddr ?_
    refine l_on ?_
    refine l_load ?_
    refine l_on ?_
    refine l_cmp ?_
    refine l_pick_true ?_
    refine l_move ?_
    refine l_split h (fun _ h => ?_) (fun _ h => ?_)
    · refine l_on ?_
      refine l_fieldAddr ?_
      refine l_on ?_
      refine l_load ?_
      refine l_on ?_
      refine l_cmp ?_
      refine l_pick_true ?_
      refine l_move ?_
      refine l_split h (fun _ h => ?_) (fun _ h => ?_)
      · refine l_on ?_
        refine l_move ?_
        refine l_on ?_
        refine l_cmp ?_
        refine l_pick_true ?_
        refine l_move ?_
        refine l_split h (fun _ h => ?_) (fun _ h => ?_)
        · refine l_on ?_
          refine l_load_agg ?_
          refine l_on ?_
          refine l_load_agg ?_
          refine l_on ?_
          refine l_call h (fun _ => value_Same_ok) (fun v3 _ h => ?_)
          refine l_pick_true ?_
          refine l_assign ?_
          refine k_nil ?_
          refine f_t ?_
          refine k_retc ?_
          apply k_ret [] hB h
        refine l_off ?_
        refine l_off ?_
        refine l_off ?_
        refine l_pick_false ?_
        refine l_assign ?_
        refine k_nil ?_
        refine f_t ?_
        refine k_retc ?_
        apply k_ret [] hB h
      refine l_off ?_
      refine l_off ?_
      refine l_pick_false ?_
      refine l_move ?_
      refine l_off ?_
      refine l_off ?_
      refine l_off ?_
      refine l_pick_false ?_
      refine l_assign ?_
      refine k_nil ?_
      refine f_t ?_
      refine k_retc ?_
      apply k_ret [] hB h
    refine l_off ?_
    refine l_off ?_
    refine l_off ?_
    refine l_pick_false ?_
    refine l_move ?_
    refine l_off ?_
    refine l_off ?_
    refine l_pick_false ?_
    refine l_move ?_
    refine l_off ?_
    refine l_off ?_
    refine l_off ?_
    refine l_pick_false ?_
    refine l_assign ?_
    refine k_nil ?_
    refine f_t ?_
    refine k_retc ?_
    apply k_ret [] hB h
  refine l_off ?_
  refine l_off ?_
  refine l_off ?_
  refine l_pick_false ?_
  refine l_move ?_
  refine l_off ?_
  refine l_off ?_
  refine l_off ?_
  refine l_pick_false ?_
  refine l_move ?_
  refine l_off ?_
  refine l_off ?_
  refine l_pick_false ?_
  refine l_move ?_
  refine l_off ?_
  refine l_off ?_
  refine l_off ?_
  refine l_pick_false ?_
  refine l_assign ?_
  refine k_nil ?_
  refine f_t ?_
  refine k_retc ?_
  apply k_ret [] hB h
theorem apostilleref05_Blank_ok {c : UInt8} {r : Bool} (h : apostilleref05_Blank c = some r) : XSpec Tryd.prog 47 [U c] [] (B r) [] [] := by
  unfold apostilleref05_Blank at h
  refine X_of_run Tryd.hU Tryd.func47 (fun _ _ _ hB => ?_)
  refine k_seq ?_
  refine k_reg ?_
  refine l_assign ?_
  refine k_nil ?_
  refine f_t ?_
  refine k_seq ?_
  refine k_reg ?_
  refine l_move ?_
  refine l_cmp ?_
  refine l_move ?_
  refine l_split h (fun _ h => ?_) (fun _ h => ?_)
  · refine l_off ?_
    refine l_off ?_
    refine l_pick_true ?_
    refine l_move ?_
    refine l_off ?_
    refine l_off ?_
    refine l_pick_true ?_
    refine l_move ?_
    refine l_off ?_
    refine l_off ?_
    refine l_pick_true ?_
    refine l_assign ?_
    refine k_nil ?_
    refine f_t ?_
    refine k_retc ?_
    apply k_ret [] hB h
  refine l_on ?_
  refine l_move ?_
  refine l_on ?_
  refine l_cmp ?_
  refine l_pick_false ?_
  refine l_move ?_
  refine l_split h (fun _ h => ?_) (fun _ h => ?_)
  · refine l_off ?_
    refine l_off ?_
    refine l_pick_true ?_
    refine l_move ?_
    refine l_off ?_
    refine l_off ?_
    refine l_pick_true ?_
    refine l_assign ?_
    refine k_nil ?_
    refine f_t ?_
    refine k_retc ?_
    apply k_ret [] hB h
  refine l_on ?_
  refine l_move ?_
  refine l_on ?_
  refine l_cmp ?_
  refine l_pick_false ?_
  refine l_move ?_
  refine l_split h (fun _ h => ?_) (fun _ h => ?_)
  · refine l_off ?_
    refine l_off ?_
    refine l_pick_true ?_
    refine l_assign ?_
    refine k_nil ?_
    refine f_t ?_
    refine k_retc ?_
    apply k_ret [] hB h
  refine l_on ?_
  refine l_move ?_
  refine l_on ?_
  refine l_cmp ?_
  refine l_pick_false ?_
  refine l_assign ?_
  refine k_nil ?_
  refine f_t ?_
  refine k_retc ?_
  apply k_ret [] hB h
theorem apostilleref05_Trim_ok {s : Str} {r : Str} (h : apostilleref05_Trim s = some r) : XSpec Tryd.prog 28 [S s] [] (S r) [] [] := by
  unfold apostilleref05_Trim at h
  refine X_of_run Tryd.hU Tryd.func28 (fun _ _ _ hB => ?_)
  refine k_seq ?_
  refine k_reg ?_
  refine l_assign ?_
  refine k_nil ?_
  refine f_t ?_
  refine k_seq ?_
  refine k_reg ?_
  refine l_move ?_
  refine l_lens ?_
  refine l_assign ?_
  refine l_assign ?_
  refine k_nil ?_
  refine f_t ?_
  refine k_seq ?_
  refine k_block ?_
  refine k_loop (fun y1 => ⟨[(0, S s), (3, I y1), (4, I (s.length : Int))], [], []⟩) (fun q4 => (.exit 0, ⟨[(0, S s), (3, I q4), (4, I (s.length : Int))], [], []⟩)) [] hB h (fun y1 t h => ?_) (fun q4 h => ?_)
  · unfold apostilleref05_Trim_b1 at h
    refine k_seq ?_
    refine k_seq ?_
    refine k_reg ?_
    refine l_move ?_
    refine l_move ?_
    refine l_cmp ?_
    refine l_move ?_
    refine l_split h (fun _ h => ?_) (fun _ h => ?_)
    · refine l_on ?_
      refine l_move ?_
      refine l_on ?_
      refine l_move ?_
      refine l_on ?_
      refine l_ats h (fun v2 _ h => ?_)
      refine l_on ?_
      refine l_call h (fun _ => apostilleref05_Blank_ok) (fun v3 _ h => ?_)
      refine l_pick_true ?_
      refine k_nil ?_
      refine f_t ?_
      refine k_if h (fun _ h => ?_) (fun _ h => ?_)
      · refine k_skip ?_
        refine f_t ?_
        refine k_block ?_
        refine k_reg ?_
        refine l_move ?_
        refine l_addw ?_
        refine l_assign ?_
        refine k_nil ?_
        refine f_b ?_
        exact k_next [] hB h
      refine k_exit ?_
      refine f_te ?_
      exact k_brk [] hB h
    refine l_off ?_
    refine l_off ?_
    refine l_off ?_
    refine l_off ?_
    refine l_pick_false ?_
    refine k_nil ?_
    refine f_t ?_
    refine k_f ?_
    refine k_exit ?_
    refine f_te ?_
    exact k_brk [] hB h
  refine f_be ?_
  refine f_t ?_
  refine k_seq ?_
  refine k_block ?_
  refine k_loop (fun y5 => ⟨[(0, S s), (3, I q4), (4, I y5)], [], []⟩) (fun q8 => (.exit 2, ⟨[(0, S s), (3, I q4), (4, I q8)], [], []⟩)) [] hB h (fun y5 t h => ?_) (fun q8 h => ?_)
  · unfold apostilleref05_Trim_b2 at h
    refine k_seq ?_
    refine k_seq ?_
    refine k_reg ?_
    refine l_move ?_
    refine l_move ?_
    refine l_cmp ?_
    refine l_move ?_
    refine l_split h (fun _ h => ?_) (fun _ h => ?_)
    · refine l_on ?_
      refine l_move ?_
      refine l_on ?_
      refine l_move ?_
      refine l_on ?_
      refine l_subw ?_
      refine l_on ?_
      refine l_ats h (fun v6 _ h => ?_)
      refine l_on ?_
      refine l_call h (fun _ => apostilleref05_Blank_ok) (fun v7 _ h => ?_)
      refine l_pick_true ?_
      refine k_nil ?_
      refine f_t ?_
      refine k_if h (fun _ h => ?_) (fun _ h => ?_)
      · refine k_skip ?_
        refine f_t ?_
        refine k_block ?_
        refine k_reg ?_
        refine l_move ?_
        refine l_subw ?_
        refine l_assign ?_
        refine k_nil ?_
        refine f_b ?_
        exact k_next [] hB h
      refine k_exit ?_
      refine f_te ?_
      exact k_brk [] hB h
    refine l_off ?_
    refine l_off ?_
    refine l_off ?_
    refine l_off ?_
    refine l_off ?_
    refine l_pick_false ?_
    refine k_nil ?_
    refine f_t ?_
    refine k_f ?_
    refine k_exit ?_
    refine f_te ?_
    exact k_brk [] hB h
  refine f_be ?_
  refine f_t ?_
  refine k_seq ?_
  refine k_reg ?_
  refine l_move ?_
  refine l_move ?_
  refine l_move ?_
  refine l_subs h (fun v9 _ h => ?_)
  refine l_assign ?_
  refine k_nil ?_
  refine f_t ?_
  refine k_retc ?_
  apply k_ret [] hB h
theorem apostilleref16_None_ok {r : TValue} (h : apostilleref16_None = some r) : XSpec Tryd.prog 17 [] [] (.agg (c_TValue r)) [] [] := by
  unfold apostilleref16_None at h
  refine X_of_run Tryd.hU Tryd.func17 (fun _ _ _ hB => ?_)
  refine k_seq ?_
  refine k_reg ?_
  refine l_alloc ?_
  refine k_nil ?_
  refine f_t ?_
  refine k_seq ?_
  refine k_reg ?_
  refine l_build ?_
  refine l_store_box ?_
  refine k_nil ?_
  refine f_t ?_
  refine k_retc ?_
  apply k_retN [] hB h
theorem apostilleref16_Read_ok {s : Str} {r : TValue × Int} (h : apostilleref16_Read s = some r) : XSpec Tryd.prog 9 [S s] [] (.tup [.agg (c_TValue r.1), I r.2]) [] [] := by
  unfold apostilleref16_Read at h
  refine X_of_run Tryd.hU Tryd.func9 (fun _ _ _ hB => ?_)
  refine k_seq ?_
  refine k_reg ?_
  refine l_alloc ?_
  refine l_assign ?_
  refine k_nil ?_
  refine f_t ?_
  refine k_seq ?_
  refine k_reg ?_
  refine l_move ?_
  refine l_call h (fun _ => apostilleref05_Trim_ok) (fun v1 _ h => ?_)
  refine l_assign ?_
  refine k_nil ?_
  refine f_t ?_
  refine k_seq ?_
  refine k_cut (fun q3 => (.normal, ⟨[(0, S v1), (2, .ptr 1002 0), (4, I 0), (5, B q3)], [(1002, .box [I 0, .pl (.slice none 0 0), B false, I 0, B false, S []])], []⟩)) h (fun t h => ?_) (fun q3 h => ?_)
  · refine k_mix [] (.q 0 (.q 1 (.q 2 (.q 3 (.q 4 (.q 5 (.q 6 (.q 7 (.q 8 (.done)))))))))) hm ?_
    refine gq ?_
    refine n_move ?_
    refine gq ?_
    refine n_sne ?_
    refine gq ?_
    refine n_move ?_
    refine gq ?_
    refine n_split h (fun _ h => ?_) (fun _ h => ?_)
    · refine n_on ?_
      refine n_move ?_
      refine gq ?_
      refine n_on ?_
      refine n_ats h (fun v2 _ h => ?_)
      refine gq ?_
      refine n_on ?_
      refine n_cmp ?_
      refine gq ?_
      refine n_pick_true ?_
      refine gq ?_
      refine n_assign ?_
      refine gq ?_
      refine n_assign ?_
      refine m_nil ?_
      exact k_out [(1002, 1002)] hB h
    refine n_off ?_
    refine gq ?_
    refine n_off ?_
    refine gq ?_
    refine n_off ?_
    refine gq ?_
    refine n_pick_false ?_
    refine gq ?_
    refine n_assign ?_
    refine gq ?_
    refine n_assign ?_
    refine m_nil ?_
    exact k_out [(1002, 1002)] hB h
  refine f_t ?_
  refine k_seq ?_
  refine k_seq ?_
  refine k_reg ?_
  refine l_move ?_
  refine k_nil ?_
  refine f_t ?_
  refine k_if h (fun _ h => ?_) (fun _ h => ?_)
  · refine k_reg ?_
    refine l_assign ?_
    refine k_nil ?_
    refine f_t ?_
    refine k_seq ?_
    refine k_reg ?_
    refine l_assign ?_
    refine l_assign ?_
    refine l_assign ?_
    refine l_assign ?_
    refine l_assign ?_
    refine k_nil ?_
    refine f_t ?_
    refine k_seq ?_
    refine k_block ?_
    refine k_loop (fun y4 => ⟨[(0, S v1), (2, .ptr 1002 0), (4, I y4.1), (5, B q3), (6, I y4.2.1), (7, I y4.2.2.1), (8, I y4.2.2.2.1), (9, B y4.2.2.2.2.1), (10, B y4.2.2.2.2.2)], [(1002, .box [I 0, .pl (.slice none 0 0), B false, I 0, B false, S []])], []⟩) (Sum.elim (fun q8 => (.ret, ⟨[(2, .ptr 1002 0), (3, I 0)], [(1002, .box [I q8.1, .vs q8.2.1.length (F c_TPoint q8.2.1), B q8.2.2.1, I q8.2.2.2.1, B q8.2.2.2.2.1, S q8.2.2.2.2.2])], []⟩)) (fun q9 => (.exit 0, ⟨[(2, .ptr 1002 0), (5, B q3), (6, I q9.1), (7, I q9.2.1), (8, I q9.2.2.1), (9, B q9.2.2.2.1), (10, B q9.2.2.2.2)], [(1002, .box [I 0, .pl (.slice none 0 0), B false, I 0, B false, S []])], []⟩))) [(1002, 1002)] hB h (fun y4 t h => ?_) (fun q h => ?_)
    · unfold apostilleref16_Read_b1 at h
      refine k_seq ?_
      refine k_seq ?_
      refine k_reg ?_
      refine l_move ?_
      refine l_move ?_
      refine l_lens ?_
      refine l_cmp ?_
      refine k_nil ?_
      refine f_t ?_
      refine k_if h (fun _ h => ?_) (fun _ h => ?_)
      · refine k_skip ?_
        refine f_t ?_
        refine k_seq ?_
        refine k_block ?_
        refine k_seq ?_
        refine k_reg ?_
        refine l_move ?_
        refine l_move ?_
        refine l_ats h (fun v5 _ h => ?_)
        refine l_assign ?_
        refine k_nil ?_
        refine f_t ?_
        refine k_block ?_
        refine k_seq ?_
        refine k_reg ?_
        refine l_move ?_
        refine l_cmp ?_
        refine l_assign ?_
        refine k_nil ?_
        refine f_t ?_
        refine k_if h (fun _ h => ?_) (fun _ h => ?_)
        · refine k_reg ?_
          refine l_move ?_
          refine l_addw ?_
          refine l_assign ?_
          refine k_nil ?_
          refine f_b ?_
          refine f_b ?_
          refine f_t ?_
          refine k_reg ?_
          refine l_move ?_
          refine l_addw ?_
          refine l_assign ?_
          refine k_nil ?_
          exact k_next [(1002, 1002)] hB h
        refine k_seq ?_
        refine k_cut (fun q6 => (.normal, ⟨[(0, S v1), (2, .ptr 1002 0), (4, I y4.1), (5, B q3), (6, I y4.2.1), (7, I y4.2.2.1), (8, I y4.2.2.2.1), (9, B y4.2.2.2.2.1), (10, B y4.2.2.2.2.2), (11, U v5), (48, B q6)], [(1002, .box [I 0, .pl (.slice none 0 0), B false, I 0, B false, S []])], []⟩)) h (fun t h => ?_) (fun q6 h => ?_)
        · refine k_reg ?_
          refine l_move ?_
          refine l_cmp ?_
          refine l_move ?_
          refine l_split h (fun _ h => ?_) (fun _ h => ?_)
          · refine l_off ?_
            refine l_off ?_
            refine l_pick_true ?_
            refine l_assign ?_
            refine k_nil ?_
            exact k_out [(1002, 1002)] hB h
          refine l_on ?_
          refine l_move ?_
          refine l_on ?_
          refine l_cmp ?_
          refine l_pick_false ?_
          refine l_assign ?_
          refine k_nil ?_
          exact k_out [(1002, 1002)] hB h
        refine f_t ?_
        refine k_if h (fun _ h => ?_) (fun _ h => ?_)
        · refine k_seq ?_
          refine k_reg ?_
          refine l_call h (fun _ => apostilleref16_None_ok) (fun v7 _ h => ?_)
          refine l_store_box ?_
          refine l_assign ?_
          refine k_nil ?_
          refine f_t ?_
          refine k_retc ?_
          refine f_br ?_
          refine f_br ?_
          refine f_tr ?_
          exact k_brk [(1002, 1002)] hB h
        refine k_seq ?_
        refine k_reg ?_
        refine l_move ?_
        refine l_cmp ?_
        refine l_assign ?_
        refine k_nil ?_
        refine f_t ?_
        refine k_if h (fun _ h => ?_) (fun _ h => ?_)
        · refine k_seq ?_
          refine k_reg ?_
          refine l_move ?_
          refine l_addw ?_
          refine l_assign ?_
          refine k_nil ?_
          refine f_t ?_
          refine k_reg ?_
          refine l_move ?_
          refine l_move ?_
          refine l_split h (fun _ h => ?_) (fun _ h => ?_)
          · refine l_off ?_
            refine l_off ?_
            refine l_pick_true ?_
            refine l_assign ?_
            refine k_nil ?_
            refine f_b ?_
            refine f_b ?_
            refine f_t ?_
            refine k_reg ?_
            refine l_move ?_
            refine l_addw ?_
            refine l_assign ?_
            refine k_nil ?_
            exact k_next [(1002, 1002)] hB h
          refine l_on ?_
          refine l_move ?_
          refine l_on ?_
          refine l_cmp ?_
          refine l_pick_false ?_
          refine l_assign ?_
          refine k_nil ?_
          refine f_b ?_
          refine f_b ?_
          refine f_t ?_
          refine k_reg ?_
          refine l_move ?_
          refine l_addw ?_
          refine l_assign ?_
          refine k_nil ?_
          exact k_next [(1002, 1002)] hB h
        refine k_seq ?_
        refine k_reg ?_
        refine l_move ?_
        refine l_addw ?_
        refine l_assign ?_
        refine k_nil ?_
        refine f_t ?_
        refine k_seq ?_
        refine k_seq ?_
        refine k_reg ?_
        refine l_move ?_
        refine l_un ?_
        refine k_nil ?_
        refine f_t ?_
        refine k_if h (fun _ h => ?_) (fun _ h => ?_)
        · refine k_reg ?_
          refine l_move ?_
          refine l_mulw ?_
          refine l_move ?_
          refine l_subU v5 48 ?_
          refine l_conv_int ?_
          refine l_addw ?_
          refine l_assign ?_
          refine k_nil ?_
          refine f_t ?_
          refine k_reg ?_
          refine l_move ?_
          refine l_cmp ?_
          refine l_assign ?_
          refine k_nil ?_
          refine f_b ?_
          refine f_b ?_
          refine f_t ?_
          refine k_reg ?_
          refine l_move ?_
          refine l_addw ?_
          refine l_assign ?_
          refine k_nil ?_
          exact k_next [(1002, 1002)] hB h
        refine k_skip ?_
        refine f_t ?_
        refine k_reg ?_
        refine l_move ?_
        refine l_cmp ?_
        refine l_assign ?_
        refine k_nil ?_
        refine f_b ?_
        refine f_b ?_
        refine f_t ?_
        refine k_reg ?_
        refine l_move ?_
        refine l_addw ?_
        refine l_assign ?_
        refine k_nil ?_
        exact k_next [(1002, 1002)] hB h
      refine k_exit ?_
      refine f_te ?_
      exact k_brk [(1002, 1002)] hB h
    rcases q with q8 | q9
    · dsimp only [Sum.elim] at h ⊢
      refine f_br ?_
      refine f_tr ?_
      apply k_ret [] hB h
    dsimp only [Sum.elim] at h ⊢
    refine f_be ?_
    refine f_t ?_
    refine k_seq ?_
    refine k_seq ?_
    refine k_reg ?_
    refine l_move ?_
    refine l_cmp ?_
    refine l_move ?_
    refine l_split h (fun _ h => ?_) (fun _ h => ?_)
    · refine l_off ?_
      refine l_off ?_
      refine l_pick_true ?_
      refine k_nil ?_
      refine f_t ?_
      refine k_t ?_
      refine k_seq ?_
      refine k_reg ?_
      refine l_call h (fun _ => apostilleref16_None_ok) (fun v10 _ h => ?_)
      refine l_store_box ?_
      refine l_assign ?_
      refine k_nil ?_
      refine f_t ?_
      refine k_retc ?_
      refine f_tr ?_
      apply k_ret [] hB h
    refine l_on ?_
    refine l_move ?_
    refine l_on ?_
    refine l_cmp ?_
    refine l_pick_false ?_
    refine k_nil ?_
    refine f_t ?_
    refine k_if h (fun _ h => ?_) (fun _ h => ?_)
    · refine k_seq ?_
      refine k_reg ?_
      refine l_call h (fun _ => apostilleref16_None_ok) (fun v11 _ h => ?_)
      refine l_store_box ?_
      refine l_assign ?_
      refine k_nil ?_
      refine f_t ?_
      refine k_retc ?_
      refine f_tr ?_
      apply k_ret [] hB h
    refine k_skip ?_
    refine f_t ?_
    refine k_seq ?_
    refine k_seq ?_
    refine k_reg ?_
    refine l_move ?_
    refine l_move ?_
    refine l_split h (fun _ h => ?_) (fun _ h => ?_)
    · refine l_off ?_
      refine l_pick_true ?_
      refine k_nil ?_
      refine f_t ?_
      refine k_t ?_
      refine k_seq ?_
      refine k_reg ?_
      refine l_build ?_
      refine l_store_box ?_
      refine l_assign ?_
      refine k_nil ?_
      refine f_t ?_
      refine k_retc ?_
      refine f_tr ?_
      apply k_retN [] hB h
    refine l_on ?_
    refine l_move ?_
    refine l_pick_false ?_
    refine k_nil ?_
    refine f_t ?_
    refine k_if h (fun _ h => ?_) (fun _ h => ?_)
    · refine k_seq ?_
      refine k_reg ?_
      refine l_build ?_
      refine l_store_box ?_
      refine l_assign ?_
      refine k_nil ?_
      refine f_t ?_
      refine k_retc ?_
      refine f_tr ?_
      apply k_retN [] hB h
    refine k_skip ?_
    refine f_t ?_
    refine k_seq ?_
    refine k_seq ?_
    refine k_reg ?_
    refine l_move ?_
    refine k_nil ?_
    refine f_t ?_
    refine k_if h (fun _ h => ?_) (fun _ h => ?_)
    · refine k_reg ?_
      refine l_move ?_
      refine l_un ?_
      refine l_assign ?_
      refine k_nil ?_
      refine f_t ?_
      refine k_seq ?_
      refine k_reg ?_
      refine l_move ?_
      refine l_build ?_
      refine l_store_box ?_
      refine l_assign ?_
      refine k_nil ?_
      refine f_t ?_
      refine k_retc ?_
      apply k_retN [] hB h
    refine k_skip ?_
    refine f_t ?_
    refine k_seq ?_
    refine k_reg ?_
    refine l_move ?_
    refine l_build ?_
    refine l_store_box ?_
    refine l_assign ?_
    refine k_nil ?_
    refine f_t ?_
    refine k_retc ?_
    apply k_retN [] hB h
  refine k_skip ?_
  refine f_t ?_
  refine k_seq ?_
  refine k_reg ?_
  refine l_assign ?_
  refine l_assign ?_
  refine l_assign ?_
  refine l_assign ?_
  refine l_assign ?_
  refine k_nil ?_
  refine f_t ?_
  refine k_seq ?_
  refine k_block ?_
  refine k_loop (fun y12 => ⟨[(0, S v1), (2, .ptr 1002 0), (4, I y12.1), (5, B q3), (6, I y12.2.1), (7, I y12.2.2.1), (8, I y12.2.2.2.1), (9, B y12.2.2.2.2.1), (10, B y12.2.2.2.2.2)], [(1002, .box [I 0, .pl (.slice none 0 0), B false, I 0, B false, S []])], []⟩) (Sum.elim (fun q16 => (.ret, ⟨[(2, .ptr 1002 0), (3, I 0)], [(1002, .box [I q16.1, .vs q16.2.1.length (F c_TPoint q16.2.1), B q16.2.2.1, I q16.2.2.2.1, B q16.2.2.2.2.1, S q16.2.2.2.2.2])], []⟩)) (fun q17 => (.exit 0, ⟨[(2, .ptr 1002 0), (5, B q3), (6, I q17.1), (7, I q17.2.1), (8, I q17.2.2.1), (9, B q17.2.2.2.1), (10, B q17.2.2.2.2)], [(1002, .box [I 0, .pl (.slice none 0 0), B false, I 0, B false, S []])], []⟩))) [(1002, 1002)] hB h (fun y12 t h => ?_) (fun q h => ?_)
  · unfold apostilleref16_Read_b2 at h
    refine k_seq ?_
    refine k_seq ?_
    refine k_reg ?_
    refine l_move ?_
    refine l_move ?_
    refine l_lens ?_
    refine l_cmp ?_
    refine k_nil ?_
    refine f_t ?_
    refine k_if h (fun _ h => ?_) (fun _ h => ?_)
    · refine k_skip ?_
      refine f_t ?_
      refine k_seq ?_
      refine k_block ?_
      refine k_seq ?_
      refine k_reg ?_
      refine l_move ?_
      refine l_move ?_
      refine l_ats h (fun v13 _ h => ?_)
      refine l_assign ?_
      refine k_nil ?_
      refine f_t ?_
      refine k_block ?_
      refine k_seq ?_
      refine k_reg ?_
      refine l_move ?_
      refine l_cmp ?_
      refine l_assign ?_
      refine k_nil ?_
      refine f_t ?_
      refine k_if h (fun _ h => ?_) (fun _ h => ?_)
      · refine k_reg ?_
        refine l_move ?_
        refine l_addw ?_
        refine l_assign ?_
        refine k_nil ?_
        refine f_b ?_
        refine f_b ?_
        refine f_t ?_
        refine k_reg ?_
        refine l_move ?_
        refine l_addw ?_
        refine l_assign ?_
        refine k_nil ?_
        exact k_next [(1002, 1002)] hB h
      refine k_seq ?_
      refine k_cut (fun q14 => (.normal, ⟨[(0, S v1), (2, .ptr 1002 0), (4, I y12.1), (5, B q3), (6, I y12.2.1), (7, I y12.2.2.1), (8, I y12.2.2.2.1), (9, B y12.2.2.2.2.1), (10, B y12.2.2.2.2.2), (11, U v13), (48, B q14)], [(1002, .box [I 0, .pl (.slice none 0 0), B false, I 0, B false, S []])], []⟩)) h (fun t h => ?_) (fun q14 h => ?_)
      · refine k_reg ?_
        refine l_move ?_
        refine l_cmp ?_
        refine l_move ?_
        refine l_split h (fun _ h => ?_) (fun _ h => ?_)
        · refine l_off ?_
          refine l_off ?_
          refine l_pick_true ?_
          refine l_assign ?_
          refine k_nil ?_
          exact k_out [(1002, 1002)] hB h
        refine l_on ?_
        refine l_move ?_
        refine l_on ?_
        refine l_cmp ?_
        refine l_pick_false ?_
        refine l_assign ?_
        refine k_nil ?_
        exact k_out [(1002, 1002)] hB h
      refine f_t ?_
      refine k_if h (fun _ h => ?_) (fun _ h => ?_)
      · refine k_seq ?_
        refine k_reg ?_
        refine l_call h (fun _ => apostilleref16_None_ok) (fun v15 _ h => ?_)
        refine l_store_box ?_
        refine l_assign ?_
        refine k_nil ?_
        refine f_t ?_
        refine k_retc ?_
        refine f_br ?_
        refine f_br ?_
        refine f_tr ?_
        exact k_brk [(1002, 1002)] hB h
      refine k_seq ?_
      refine k_reg ?_
      refine l_move ?_
      refine l_cmp ?_
      refine l_assign ?_
      refine k_nil ?_
      refine f_t ?_
      refine k_if h (fun _ h => ?_) (fun _ h => ?_)
      · refine k_seq ?_
        refine k_reg ?_
        refine l_move ?_
        refine l_addw ?_
        refine l_assign ?_
        refine k_nil ?_
        refine f_t ?_
        refine k_reg ?_
        refine l_move ?_
        refine l_move ?_
        refine l_split h (fun _ h => ?_) (fun _ h => ?_)
        · refine l_off ?_
          refine l_off ?_
          refine l_pick_true ?_
          refine l_assign ?_
          refine k_nil ?_
          refine f_b ?_
          refine f_b ?_
          refine f_t ?_
          refine k_reg ?_
          refine l_move ?_
          refine l_addw ?_
          refine l_assign ?_
          refine k_nil ?_
          exact k_next [(1002, 1002)] hB h
        refine l_on ?_
        refine l_move ?_
        refine l_on ?_
        refine l_cmp ?_
        refine l_pick_false ?_
        refine l_assign ?_
        refine k_nil ?_
        refine f_b ?_
        refine f_b ?_
        refine f_t ?_
        refine k_reg ?_
        refine l_move ?_
        refine l_addw ?_
        refine l_assign ?_
        refine k_nil ?_
        exact k_next [(1002, 1002)] hB h
      refine k_seq ?_
      refine k_reg ?_
      refine l_move ?_
      refine l_addw ?_
      refine l_assign ?_
      refine k_nil ?_
      refine f_t ?_
      refine k_seq ?_
      refine k_seq ?_
      refine k_reg ?_
      refine l_move ?_
      refine l_un ?_
      refine k_nil ?_
      refine f_t ?_
      refine k_if h (fun _ h => ?_) (fun _ h => ?_)
      · refine k_reg ?_
        refine l_move ?_
        refine l_mulw ?_
        refine l_move ?_
        refine l_subU v13 48 ?_
        refine l_conv_int ?_
        refine l_addw ?_
        refine l_assign ?_
        refine k_nil ?_
        refine f_t ?_
        refine k_reg ?_
        refine l_move ?_
        refine l_cmp ?_
        refine l_assign ?_
        refine k_nil ?_
        refine f_b ?_
        refine f_b ?_
        refine f_t ?_
        refine k_reg ?_
        refine l_move ?_
        refine l_addw ?_
        refine l_assign ?_
        refine k_nil ?_
        exact k_next [(1002, 1002)] hB h
      refine k_skip ?_
      refine f_t ?_
      refine k_reg ?_
      refine l_move ?_
      refine l_cmp ?_
      refine l_assign ?_
      refine k_nil ?_
      refine f_b ?_
      refine f_b ?_
      refine f_t ?_
      refine k_reg ?_
      refine l_move ?_
      refine l_addw ?_
      refine l_assign ?_
      refine k_nil ?_
      exact k_next [(1002, 1002)] hB h
    refine k_exit ?_
    refine f_te ?_
    exact k_brk [(1002, 1002)] hB h
  rcases q with q16 | q17
  · dsimp only [Sum.elim] at h ⊢
    refine f_br ?_
    refine f_tr ?_
    apply k_ret [] hB h
  dsimp only [Sum.elim] at h ⊢
  refine f_be ?_
  refine f_t ?_
  refine k_seq ?_
  refine k_seq ?_
  refine k_reg ?_
  refine l_move ?_
  refine l_cmp ?_
  refine l_move ?_
  refine l_split h (fun _ h => ?_) (fun _ h => ?_)
  · refine l_off ?_
    refine l_off ?_
    refine l_pick_true ?_
    refine k_nil ?_
    refine f_t ?_
    refine k_t ?_
    refine k_seq ?_
    refine k_reg ?_
    refine l_call h (fun _ => apostilleref16_None_ok) (fun v18 _ h => ?_)
    refine l_store_box ?_
    refine l_assign ?_
    refine k_nil ?_
    refine f_t ?_
    refine k_retc ?_
    refine f_tr ?_
    apply k_ret [] hB h
  refine l_on ?_
  refine l_move ?_
  refine l_on ?_
  refine l_cmp ?_
  refine l_pick_false ?_
  refine k_nil ?_
  refine f_t ?_
  refine k_if h (fun _ h => ?_) (fun _ h => ?_)
  · refine k_seq ?_
    refine k_reg ?_
    refine l_call h (fun _ => apostilleref16_None_ok) (fun v19 _ h => ?_)
    refine l_store_box ?_
    refine l_assign ?_
    refine k_nil ?_
    refine f_t ?_
    refine k_retc ?_
    refine f_tr ?_
    apply k_ret [] hB h
  refine k_skip ?_
  refine f_t ?_
  refine k_seq ?_
  refine k_seq ?_
  refine k_reg ?_
  refine l_move ?_
  refine l_move ?_
  refine l_split h (fun _ h => ?_) (fun _ h => ?_)
  · refine l_off ?_
    refine l_pick_true ?_
    refine k_nil ?_
    refine f_t ?_
    refine k_t ?_
    refine k_seq ?_
    refine k_reg ?_
    refine l_build ?_
    refine l_store_box ?_
    refine l_assign ?_
    refine k_nil ?_
    refine f_t ?_
    refine k_retc ?_
    refine f_tr ?_
    apply k_retN [] hB h
  refine l_on ?_
  refine l_move ?_
  refine l_pick_false ?_
  refine k_nil ?_
  refine f_t ?_
  refine k_if h (fun _ h => ?_) (fun _ h => ?_)
  · refine k_seq ?_
    refine k_reg ?_
    refine l_build ?_
    refine l_store_box ?_
    refine l_assign ?_
    refine k_nil ?_
    refine f_t ?_
    refine k_retc ?_
    refine f_tr ?_
    apply k_retN [] hB h
  refine k_skip ?_
  refine f_t ?_
  refine k_seq ?_
  refine k_seq ?_
  refine k_reg ?_
  refine l_move ?_
  refine k_nil ?_
  refine f_t ?_
  refine k_if h (fun _ h => ?_) (fun _ h => ?_)
  · refine k_reg ?_
    refine l_move ?_
    refine l_un ?_
    refine l_assign ?_
    refine k_nil ?_
    refine f_t ?_
    refine k_seq ?_
    refine k_reg ?_
    refine l_move ?_
    refine l_build ?_
    refine l_store_box ?_
    refine l_assign ?_
    refine k_nil ?_
    refine f_t ?_
    refine k_retc ?_
    apply k_retN [] hB h
  refine k_skip ?_
  refine f_t ?_
  refine k_seq ?_
  refine k_reg ?_
  refine l_move ?_
  refine l_build ?_
  refine l_store_box ?_
  refine l_assign ?_
  refine k_nil ?_
  refine f_t ?_
  refine k_retc ?_
  apply k_retN [] hB h
theorem apostilleref10_Same_ok {a : (List TPoint)} {b : (List TPoint)} {r : Bool} (h : apostilleref10_Same a b = some r) : XSpec Tryd.prog 29 [.vs a.length (F c_TPoint a), .vs b.length (F c_TPoint b)] [] (B r) [] [] := by
  unfold apostilleref10_Same at h
  refine X_of_run Tryd.hU Tryd.func29 (fun _ _ _ hB => ?_)
  refine k_seq ?_
  refine k_reg ?_
  refine l_assign ?_
  refine k_nil ?_
  refine f_t ?_
  refine k_seq ?_
  refine k_seq ?_
  refine k_reg ?_
  refine l_move ?_
  refine l_len ?_
  refine l_move ?_
  refine l_len ?_
  refine l_cmp ?_
  refine k_nil ?_
  refine f_t ?_
  refine k_if h (fun _ h => ?_) (fun _ h => ?_)
  · refine k_seq ?_
    refine k_reg ?_
    refine l_assign ?_
    refine k_nil ?_
    refine f_t ?_
    refine k_retc ?_
    refine f_tr ?_
    apply k_ret [] hB h
  refine k_skip ?_
  refine f_t ?_
  refine k_seq ?_
  refine k_seq ?_
  refine k_reg ?_
  refine l_move ?_
  refine l_len ?_
  refine l_move ?_
  refine k_nil ?_
  refine f_t ?_
  refine k_block ?_
  refine k_loop (fun y1 => ⟨[(0, .vs a.length (F c_TPoint a)), (1, .vs b.length (F c_TPoint b)), (12, I (a.length : Int)), (13, I y1)], [], []⟩) (Sum.elim (fun q4 => (.ret, ⟨[(4, B false)], [], []⟩)) (fun q5 => (.exit 0, ⟨[], [], []⟩))) [] hB h (fun y1 t h => ?_) (fun q h => ?_)
  · unfold apostilleref10_Same_b1 at h
    refine k_seq ?_
    refine k_reg ?_
    refine l_cmp ?_
    refine k_nil ?_
    refine f_t ?_
    refine k_seq ?_
    refine k_if h (fun _ h => ?_) (fun _ h => ?_)
    · refine k_skip ?_
      refine f_t ?_
      refine k_seq ?_
      refine k_block ?_
      refine k_seq ?_
      refine k_reg ?_
      refine l_move ?_
      refine l_assign ?_
      refine k_nil ?_
      refine f_t ?_
      refine k_seq ?_
      refine k_mix [] (.q 0 (.q 1 (.q 2 (.q 3 (.q 4 (.q 5 (.q 6 (.q 7 (.q 8 (.done)))))))))) hm ?_
      refine gq ?_
      refine n_move ?_
      refine gq ?_
      refine n_move ?_
      refine gq ?_
      refine n_at h (fun v2 _ h => ?_)
      refine gq ?_
      refine n_load_agg ?_
      refine gq ?_
      refine n_move ?_
      refine gq ?_
      refine n_move ?_
      refine gq ?_
      refine n_at h (fun v3 _ h => ?_)
      refine gq ?_
      refine n_load_agg ?_
      refine gq ?_
      refine n_eqs (k := .i64) (TPoint.ints v2) (TPoint.ints v3) hs60 he60 ?_
      refine m_nil ?_
      refine f_t ?_
      refine k_if h (fun _ h => ?_) (fun _ h => ?_)
      · refine k_seq ?_
        refine k_reg ?_
        refine l_assign ?_
        refine k_nil ?_
        refine f_t ?_
        refine k_retc ?_
        refine f_br ?_
        refine f_tr ?_
        exact k_brk [] hB h
      refine k_skip ?_
      refine f_b ?_
      refine f_t ?_
      refine k_reg ?_
      refine l_addw ?_
      refine l_move ?_
      refine k_nil ?_
      exact k_next [] hB h
    refine k_exit ?_
    refine f_te ?_
    exact k_brk [] hB h
  rcases q with q4 | q5
  · dsimp only [Sum.elim] at h ⊢
    refine f_br ?_
    refine f_tr ?_
    apply k_ret [] hB h
  dsimp only [Sum.elim] at h ⊢
  refine f_be ?_
  refine f_t ?_
  refine k_seq ?_
  refine k_reg ?_
  refine l_assign ?_
  refine k_nil ?_
  refine f_t ?_
  refine k_retc ?_
  apply k_ret [] hB h
theorem apostilleref16_Same_ok {a : TValue} {b : TValue} {r : Bool} (h : apostilleref16_Same a b = some r) : XSpec Tryd.prog 10 [.agg (c_TValue a), .agg (c_TValue b)] [] (B r) [] [] := by
  unfold apostilleref16_Same at h
  refine X_of_run Tryd.hU Tryd.func10 (fun _ _ _ hB => ?_)
  refine k_seq ?_
  refine k_reg ?_
  refine l_box ?_
  refine l_box ?_
  refine l_assign ?_
  refine k_nil ?_
  refine f_t ?_
  refine k_seq ?_
  refine k_reg ?_
  refine l_fieldAddr ?_
  refine l_load ?_
  refine l_fieldAddr ?_
  refine l_load ?_
  refine l_cmp ?_
  refine l_move ?_
  refine l_split h (fun _ h => ?_) (fun _ h => ?_)
  · refine l_on ?_
    refine l_fieldAddr ?_
    refine l_on ?_
    refine l_load ?_
    refine l_on ?_
    refine l_fieldAddr ?_
    refine l_on ?_
    refine l_load ?_
    refine l_on ?_
    refine l_call h (fun _ => apostilleref10_Same_ok) (fun v1 _ h => ?_)
    refine l_pick_true ?_
    refine l_move ?_
    refine l_split h (fun _ h => ?_) (fun _ h => ?_)
    · refine l_on ?_
      refine l_fieldAddr ?_
      refine l_on ?_
      refine l_load ?_
      refine l_on ?_
      refine l_fieldAddr ?_
      refine l_on ?_
      refine l_load ?_
      refine l_on ?_
      refine l_bool ?_
      refine l_pick_true ?_
      refine l_move ?_
      refine l_split h (fun _ h => ?_) (fun _ h => ?_)
      · refine l_on ?_
        refine l_fieldAddr ?_
        refine l_on ?_
        refine l_load ?_
        refine l_on ?_
        refine l_fieldAddr ?_
        refine l_on ?_
        refine l_load ?_
        refine l_on ?_
        refine l_cmp ?_
        refine l_pick_true ?_
        refine l_move ?_
        refine l_split h (fun _ h => ?_) (fun _ h => ?_)
        · refine l_on ?_
          refine l_fieldAddr ?_
          refine l_on ?_
          refine l_load ?_
          refine l_on ?_
          refine l_fieldAddr ?_
          refine l_on ?_
          refine l_load ?_
          refine l_on ?_
          refine l_bool ?_
          refine l_pick_true ?_
          refine l_move ?_
          refine l_split h (fun _ h => ?_) (fun _ h => ?_)
          · refine l_on ?_
            refine l_fieldAddr ?_
            refine l_on ?_
            refine l_load ?_
            refine l_on ?_
            refine l_fieldAddr ?_
            refine l_on ?_
            refine l_load ?_
            refine l_on ?_
            refine l_seq ?_
            refine l_pick_true ?_
            refine l_assign ?_
            refine k_nil ?_
            refine f_t ?_
            refine k_retc ?_
            apply k_ret [] hB h
          refine l_off ?_
          refine l_off ?_
          refine l_off ?_
          refine l_off ?_
          refine l_off ?_
          refine l_pick_false ?_
          refine l_assign ?_
          refine k_nil ?_
          refine f_t ?_
          refine k_retc ?_
          apply k_ret [] hB h
        refine l_off ?_
        refine l_off ?_
        refine l_off ?_
        refine l_off ?_
        refine l_off ?_
        refine l_pick_false ?_
        refine l_move ?_
        refine l_off ?_
        refine l_off ?_
        refine l_off ?_
        refine l_off ?_
        refine l_off ?_
        refine l_pick_false ?_
        refine l_assign ?_
        refine k_nil ?_
        refine f_t ?_
        refine k_retc ?_
        apply k_ret [] hB h
      refine l_off ?_
      refine l_off ?_
      refine l_off ?_
      refine l_off ?_
      refine l_off ?_
      refine l_pick_false ?_
      refine l_move ?_
      refine l_off ?_
      refine l_off ?_
      refine l_off ?_
      refine l_off ?_
      refine l_off ?_
      refine l_pick_false ?_
      refine l_move ?_
      refine l_off ?_
      refine l_off ?_
      refine l_off ?_
      refine l_off ?_
      refine l_off ?_
      refine l_pick_false ?_
      refine l_assign ?_
      refine k_nil ?_
      refine f_t ?_
      refine k_retc ?_
      apply k_ret [] hB h
    refine l_off ?_
    refine l_off ?_
    refine l_off ?_
    refine l_off ?_
    refine l_off ?_
    refine l_pick_false ?_
    refine l_move ?_
    refine l_off ?_
    refine l_off ?_
    refine l_off ?_
    refine l_off ?_
    refine l_off ?_
    refine l_pick_false ?_
    refine l_move ?_
    refine l_off ?_
    refine l_off ?_
    refine l_off ?_
    refine l_off ?_
    refine l_off ?_
    refine l_pick_false ?_
    refine l_move ?_
    refine l_off ?_
    refine l_off ?_
    refine l_off ?_
    refine l_off ?_
    refine l_off ?_
    refine l_pick_false ?_
    refine l_assign ?_
    refine k_nil ?_
    refine f_t ?_
    refine k_retc ?_
    apply k_ret [] hB h
  refine l_off ?_
  refine l_off ?_
  refine l_off ?_
  refine l_off ?_
  refine l_off ?_
  refine l_pick_false ?_
  refine l_move ?_
  refine l_off ?_
  refine l_off ?_
  refine l_off ?_
  refine l_off ?_
  refine l_off ?_
  refine l_pick_false ?_
  refine l_move ?_
  refine l_off ?_
  refine l_off ?_
  refine l_off ?_
  refine l_off ?_
  refine l_off ?_
  refine l_pick_false ?_
  refine l_move ?_
  refine l_off ?_
  refine l_off ?_
  refine l_off ?_
  refine l_off ?_
  refine l_off ?_
  refine l_pick_false ?_
  refine l_move ?_
  refine l_off ?_
  refine l_off ?_
  refine l_off ?_
  refine l_off ?_
  refine l_off ?_
  refine l_pick_false ?_
  refine l_assign ?_
  refine k_nil ?_
  refine f_t ?_
  refine k_retc ?_
  apply k_ret [] hB h
theorem apostillelaw16_ValueReads_ok {s : Str} {r : Bool} (h : apostillelaw16_ValueReads s = some r) : XSpec Tryd.prog 3 [S s] [] (B r) [] [] := by
  unfold apostillelaw16_ValueReads at h
  refine X_of_run Tryd.hU Tryd.func3 (fun _ _ _ hB => ?_)
  refine k_seq ?_
  refine k_reg ?_
  refine l_assign ?_
  refine k_nil ?_
  refine f_t ?_
  refine k_seq ?_
  refine k_seq ?_
  refine k_cut (fun q2 => (.normal, ⟨[(0, S s), (13, B q2)], [], []⟩)) h (fun t h => ?_) (fun q2 h => ?_)
  · refine k_reg ?_
    refine l_call h (fun _ => apostillelaw16_awake_ok) (fun v1 _ h => ?_)
    refine l_un ?_
    refine l_move ?_
    refine l_split h (fun _ h => ?_) (fun _ h => ?_)
    · refine l_off ?_
      refine l_off ?_
      refine l_off ?_
      refine l_pick_true ?_
      refine k_nil ?_
      exact k_out [] hB h
    refine l_on ?_
    refine l_move ?_
    refine l_on ?_
    refine l_lens ?_
    refine l_on ?_
    refine l_cmp ?_
    refine l_pick_false ?_
    refine k_nil ?_
    exact k_out [] hB h
  refine f_t ?_
  refine k_if h (fun _ h => ?_) (fun _ h => ?_)
  · refine k_seq ?_
    refine k_reg ?_
    refine l_call h (fun _ => apostillelaw16_awake_ok) (fun v3 _ h => ?_)
    refine l_assign ?_
    refine k_nil ?_
    refine f_t ?_
    refine k_retc ?_
    refine f_tr ?_
    apply k_ret [] hB h
  refine k_skip ?_
  refine f_t ?_
  refine k_seq ?_
  refine k_reg ?_
  refine l_move ?_
  refine l_call h (fun _ => value_Read_ok) (fun v4 _ h => ?_)
  refine l_move ?_
  refine l_extract ?_
  refine l_extract ?_
  refine l_alloc ?_
  refine l_store_box ?_
  refine l_assign ?_
  refine k_nil ?_
  refine f_t ?_
  refine k_seq ?_
  refine k_reg ?_
  refine l_move ?_
  refine l_call h (fun _ => apostilleref16_Read_ok) (fun v5 _ h => ?_)
  refine l_move ?_
  refine l_extract ?_
  refine l_extract ?_
  refine l_alloc ?_
  refine l_store_box ?_
  refine l_assign ?_
  refine k_nil ?_
  refine f_t ?_
  refine k_seq ?_
  refine k_reg ?_
  refine l_move ?_
  refine l_move ?_
  refine l_cmp ?_
  refine l_move ?_
  refine l_split h (fun _ h => ?_) (fun _ h => ?_)
  · refine l_on ?_
    refine l_load_agg ?_
    refine l_on ?_
    refine l_load_agg ?_
    refine l_on ?_
    refine l_call h (fun _ => apostilleref16_Same_ok) (fun v6 _ h => ?_)
    refine l_pick_true ?_
    refine l_assign ?_
    refine k_nil ?_
    refine f_t ?_
    refine k_retc ?_
    apply k_ret [] hB h
  refine l_off ?_
  refine l_off ?_
  refine l_off ?_
  refine l_pick_false ?_
  refine l_assign ?_
  refine k_nil ?_
  refine f_t ?_
  refine k_retc ?_
  apply k_ret [] hB h
theorem slices_Clone_Point_ok {s : (List TPoint)} {r : (List TPoint)} (h : slices_Clone_Point s = some r) : XSpec Tryd.prog 48 [.vs s.length (F c_TPoint s)] [] (.sl 1 0 r.length) [(1, .row 3 0 (F c_TPoint r))] [] := by
  unfold slices_Clone_Point at h
  refine X_of_run Tryd.hU Tryd.func48 (fun _ _ _ hB => ?_)
  refine k_seq ?_
  refine k_reg ?_
  refine l_assign ?_
  refine k_nil ?_
  refine f_t ?_
  refine k_seq ?_
  refine k_seq ?_
  refine k_reg ?_
  refine l_move ?_
  refine l_eqnil (fun bv1 hbv1 => ?_)
  refine k_nil ?_
  refine f_t ?_
  refine k_nd (fun e0 => ?_) (fun _ => ?_)
  · have e0 := List.eq_nil_of_length_eq_zero (hbv1 e0)
    try rw [e0] at h
    change (some []) = _ at h
    refine k_seq ?_
    refine k_reg ?_
    refine l_assign ?_
    refine k_nil ?_
    refine f_t ?_
    refine k_retc ?_
    refine f_tr ?_
    refine f_nilrow (t := 2) 3002 3 ?_
    apply k_ret [(3002, 1)] hB h
  refine k_skip ?_
  refine f_t ?_
  refine k_seq ?_
  refine k_reg ?_
  refine l_buildSlice0 ?_
  refine l_move ?_
  refine l_appf h (fun v2 _ h => ?_)
  refine l_assign ?_
  refine k_nil ?_
  refine f_t ?_
  refine k_retc ?_
  apply k_ret [(1005, 1)] hB h
theorem slices_SortFunc_Point_ok {x : (List TPoint)} {cmp : (TPoint → TPoint → Option Int)} {fk_cmp : Nat} (hf_cmp : ∀ {x0 : TPoint} {x1 : TPoint} {r : Int}, cmp x0 x1 = some r → XSpec Tryd.prog fk_cmp [.agg (c_TPoint x0), .agg (c_TPoint x1)] [] (I r) [] []) (hc_cmp : AV.closedL [] = true ∧ AV.onlyL [] [] = true) {r : (List TPoint)} (h : slices_SortFunc_Point x cmp = some r) : XSpec Tryd.prog 49 [.sl 101 0 x.length, .fn (.func fk_cmp) [] []] [(101, .row 3 0 (F c_TPoint x))] (.tup []) [(101, .row 3 0 (F c_TPoint r))] [] := by
  unfold slices_SortFunc_Point at h
  obtain ⟨cf, hT, hl, rfl⟩ := srt_some h
  have : Inhabited TPoint := ⟨⟨0, 0, 0⟩⟩
  exact sort_x Tryd.sort49 (by decide) Tryd.isAgg60 Tryd.sizeOf60 (enc := fun x => [.int .i64 x.N, .int .i64 x.Part, .int .i64 x.I]) (fun _ => rfl) (fun _ => rfl) (fun x v hv => by simp at hv; rcases hv with rfl | rfl | rfl <;> rfl) hT.swo hT.ant (fun x y => (hf_cmp (hT.val x y)).p) (fun es w => enters_of Tryd.func49 (by kernel_rfl) rfl es w) _ hl
theorem cmp_isNaN_int_ok {x : Int} {r : Bool} (h : cmp_isNaN_int x = some r) : XSpec Tryd.prog 98 [I x] [] (B r) [] [] := by
  unfold cmp_isNaN_int at h
  refine X_of_run Tryd.hU Tryd.func98 (fun _ _ _ hB => ?_)
  refine k_seq ?_
  refine k_reg ?_
  refine l_assign ?_
  refine k_nil ?_
  refine f_t ?_
  refine k_seq ?_
  refine k_reg ?_
  refine l_move ?_
  refine l_move ?_
  refine l_cmp ?_
  refine l_assign ?_
  refine k_nil ?_
  refine f_t ?_
  refine k_retc ?_
  apply k_ret [] hB h
theorem cmp_Compare_int_ok {x : Int} {y_ : Int} {r : Int} (h : cmp_Compare_int x y_ = some r) : XSpec Tryd.prog 69 [I x, I y_] [] (I r) [] [] := by
  unfold cmp_Compare_int at h
  refine X_of_run Tryd.hU Tryd.func69 (fun _ _ _ hB => ?_)
  refine k_seq ?_
  refine k_reg ?_
  refine l_assign ?_
  refine k_nil ?_
  refine f_t ?_
  refine k_seq ?_
  refine k_reg ?_
  refine l_move ?_
  refine l_call h (fun _ => cmp_isNaN_int_ok) (fun v1 _ h => ?_)
  refine l_assign ?_
  refine k_nil ?_
  refine f_t ?_
  refine k_seq ?_
  refine k_reg ?_
  refine l_move ?_
  refine l_call h (fun _ => cmp_isNaN_int_ok) (fun v2 _ h => ?_)
  refine l_assign ?_
  refine k_nil ?_
  refine f_t ?_
  refine k_seq ?_
  refine k_seq ?_
  refine k_reg ?_
  refine l_move ?_
  refine k_nil ?_
  refine f_t ?_
  refine k_if h (fun _ h => ?_) (fun _ h => ?_)
  · refine k_seq ?_
    refine k_seq ?_
    refine k_reg ?_
    refine l_move ?_
    refine k_nil ?_
    refine f_t ?_
    refine k_if h (fun _ h => ?_) (fun _ h => ?_)
    · refine k_seq ?_
      refine k_reg ?_
      refine l_assign ?_
      refine k_nil ?_
      refine f_t ?_
      refine k_retc ?_
      refine f_tr ?_
      refine f_tr ?_
      apply k_ret [] hB h
    refine k_skip ?_
    refine f_t ?_
    refine k_seq ?_
    refine k_reg ?_
    refine l_assign ?_
    refine k_nil ?_
    refine f_t ?_
    refine k_retc ?_
    refine f_tr ?_
    apply k_ret [] hB h
  refine k_skip ?_
  refine f_t ?_
  refine k_seq ?_
  refine k_seq ?_
  refine k_reg ?_
  refine l_move ?_
  refine k_nil ?_
  refine f_t ?_
  refine k_if h (fun _ h => ?_) (fun _ h => ?_)
  · refine k_seq ?_
    refine k_reg ?_
    refine l_assign ?_
    refine k_nil ?_
    refine f_t ?_
    refine k_retc ?_
    refine f_tr ?_
    apply k_ret [] hB h
  refine k_skip ?_
  refine f_t ?_
  refine k_seq ?_
  refine k_seq ?_
  refine k_reg ?_
  refine l_move ?_
  refine l_move ?_
  refine l_cmp ?_
  refine k_nil ?_
  refine f_t ?_
  refine k_if h (fun _ h => ?_) (fun _ h => ?_)
  · refine k_seq ?_
    refine k_reg ?_
    refine l_assign ?_
    refine k_nil ?_
    refine f_t ?_
    refine k_retc ?_
    refine f_tr ?_
    apply k_ret [] hB h
  refine k_skip ?_
  refine f_t ?_
  refine k_seq ?_
  refine k_seq ?_
  refine k_reg ?_
  refine l_move ?_
  refine l_move ?_
  refine l_cmp ?_
  refine k_nil ?_
  refine f_t ?_
  refine k_if h (fun _ h => ?_) (fun _ h => ?_)
  · refine k_seq ?_
    refine k_reg ?_
    refine l_assign ?_
    refine k_nil ?_
    refine f_t ?_
    refine k_retc ?_
    refine f_tr ?_
    apply k_ret [] hB h
  refine k_skip ?_
  refine f_t ?_
  refine k_seq ?_
  refine k_reg ?_
  refine l_assign ?_
  refine k_nil ?_
  refine f_t ?_
  refine k_retc ?_
  apply k_ret [] hB h
theorem cmp_Or_int_ok {vals : (List Int)} {r : Int} (h : cmp_Or_int vals = some r) : XSpec Tryd.prog 68 [.vs vals.length (F cI vals)] [] (I r) [] [] := by
  unfold cmp_Or_int at h
  refine X_of_run Tryd.hU Tryd.func68 (fun _ _ _ hB => ?_)
  refine k_seq ?_
  refine k_reg ?_
  refine l_assign ?_
  refine k_nil ?_
  refine f_t ?_
  refine k_seq ?_
  refine k_reg ?_
  refine l_assign ?_
  refine k_nil ?_
  refine f_t ?_
  refine k_seq ?_
  refine k_seq ?_
  refine k_reg ?_
  refine l_move ?_
  refine l_len ?_
  refine l_move ?_
  refine k_nil ?_
  refine f_t ?_
  refine k_block ?_
  refine k_loop (fun y1 => ⟨[(3, I 0), (6, .vs vals.length (F cI vals)), (7, I (vals.length : Int)), (8, I y1)], [], []⟩) (Sum.elim (fun q3 => (.ret, ⟨[(2, I q3)], [], []⟩)) (fun q4 => (.exit 0, ⟨[(3, I 0)], [], []⟩))) [] hB h (fun y1 t h => ?_) (fun q h => ?_)
  · unfold cmp_Or_int_b1 at h
    refine k_seq ?_
    refine k_reg ?_
    refine l_cmp ?_
    refine k_nil ?_
    refine f_t ?_
    refine k_seq ?_
    refine k_if h (fun _ h => ?_) (fun _ h => ?_)
    · refine k_skip ?_
      refine f_t ?_
      refine k_seq ?_
      refine k_block ?_
      refine k_seq ?_
      refine k_reg ?_
      refine l_at h (fun v2 _ h => ?_)
      refine l_load ?_
      refine l_assign ?_
      refine k_nil ?_
      refine f_t ?_
      refine k_seq ?_
      refine k_reg ?_
      refine l_move ?_
      refine l_move ?_
      refine l_cmp ?_
      refine k_nil ?_
      refine f_t ?_
      refine k_if h (fun _ h => ?_) (fun _ h => ?_)
      · refine k_seq ?_
        refine k_reg ?_
        refine l_move ?_
        refine l_assign ?_
        refine k_nil ?_
        refine f_t ?_
        refine k_retc ?_
        refine f_br ?_
        refine f_tr ?_
        exact k_brk [] hB h
      refine k_skip ?_
      refine f_b ?_
      refine f_t ?_
      refine k_reg ?_
      refine l_addw ?_
      refine l_move ?_
      refine k_nil ?_
      exact k_next [] hB h
    refine k_exit ?_
    refine f_te ?_
    exact k_brk [] hB h
  rcases q with q3 | q4
  · dsimp only [Sum.elim] at h ⊢
    refine f_br ?_
    refine f_tr ?_
    apply k_ret [] hB h
  dsimp only [Sum.elim] at h ⊢
  refine f_be ?_
  refine f_t ?_
  refine k_seq ?_
  refine k_reg ?_
  refine l_move ?_
  refine l_assign ?_
  refine k_nil ?_
  refine f_t ?_
  refine k_retc ?_
  apply k_ret [] hB h
theorem point_Compare_ok {a : TPoint} {b : TPoint} {r : Int} (h : point_Compare a b = some r) : XSpec Tryd.prog 50 [.agg (c_TPoint a), .agg (c_TPoint b)] [] (I r) [] [] := by
  unfold point_Compare at h
  refine X_of_run Tryd.hU Tryd.func50 (fun _ _ _ hB => ?_)
  refine k_seq ?_
  refine k_reg ?_
  refine l_box ?_
  refine l_box ?_
  refine l_assign ?_
  refine k_nil ?_
  refine f_t ?_
  refine k_seq ?_
  refine k_mix [] (.q 0 (.q 1 (.q 2 (.q 3 (.q 5 (.q 6 (.q 7 (.q 8 (.q 10 (.q 11 (.q 12 (.q 13 (.e 4 (.e 9 (.e 14 (.e 15 (.e 16 (.q 17 (.done))))))))))))))))))) hm ?_
  refine gq ?_
  refine n_fieldAddr ?_
  refine gq ?_
  refine n_load ?_
  refine gq ?_
  refine n_fieldAddr ?_
  refine gq ?_
  refine n_load ?_
  refine gq ?_
  refine n_fieldAddr ?_
  refine gq ?_
  refine n_load ?_
  refine gq ?_
  refine n_fieldAddr ?_
  refine gq ?_
  refine n_load ?_
  refine gq ?_
  refine n_fieldAddr ?_
  refine gq ?_
  refine n_load ?_
  refine gq ?_
  refine n_fieldAddr ?_
  refine gq ?_
  refine n_load ?_
  refine ge ?_
  refine n_call h (fun _ => cmp_Compare_int_ok) (fun v1 _ h => ?_)
  refine ge ?_
  refine n_call h (fun _ => cmp_Compare_int_ok) (fun v2 _ h => ?_)
  refine ge ?_
  refine n_call h (fun _ => cmp_Compare_int_ok) (fun v3 _ h => ?_)
  refine ge ?_
  refine n_lit (e := cI) [v1, v2, v3] ?_
  refine ge ?_
  refine n_callB h (fun _ => cmp_Or_int_ok) (fun v4 _ h => ?_)
  refine gq ?_
  refine n_assign ?_
  refine m_nil ?_
  refine f_t ?_
  refine k_retc ?_
  apply k_ret [] hB h
theorem slices_Compact_Point_ok {s : (List TPoint)} {r : (List TPoint)} (h : slices_Compact_Point s = some r) : XSpec Tryd.prog 51 [.sl 101 0 s.length] [(101, .row 3 0 (F c_TPoint s))] (.sl 101 0 r.length) [(101, .row 3 0 (F c_TPoint r))] [] := by
  unfold slices_Compact_Point at h
  refine X_of_run Tryd.hU Tryd.func51 (fun _ _ _ hB => ?_)
  refine k_seq ?_
  refine k_reg ?_
  refine l_assign ?_
  refine k_nil ?_
  refine f_t ?_
  refine k_seq ?_
  refine k_seq ?_
  refine k_reg ?_
  refine l_move ?_
  refine l_len ?_
  refine l_cmp ?_
  refine k_nil ?_
  refine f_t ?_
  refine k_if h (fun _ h => ?_) (fun _ h => ?_)
  · refine k_seq ?_
    refine k_reg ?_
    refine l_move ?_
    refine l_assign ?_
    refine k_nil ?_
    refine f_t ?_
    refine k_retc ?_
    refine f_tr ?_
    apply k_ret [(101, 101)] hB h
  refine k_skip ?_
  refine f_t ?_
  refine k_seq ?_
  refine k_seq ?_
  refine k_reg ?_
  refine l_assign ?_
  refine k_nil ?_
  refine f_t ?_
  refine k_block ?_
  refine k_loop (fun y1 => ⟨[(0, .sl 101 0 s.length), (3, I y1)], [(101, .row 3 0 (F c_TPoint s))], []⟩) (Sum.elim (fun q13 => (.ret, ⟨[(2, .sl 101 0 q13.length)], [(101, .row 3 0 (F c_TPoint q13))], []⟩)) (fun q14 => (.exit 0, ⟨[(0, .sl 101 0 s.length)], [(101, .row 3 0 (F c_TPoint s))], []⟩))) [(101, 101)] hB h (fun y1 t h => ?_) (fun q h => ?_)
  · unfold slices_Compact_Point_b1 at h
    refine k_seq ?_
    refine k_seq ?_
    refine k_reg ?_
    refine l_move ?_
    refine l_move ?_
    refine l_len ?_
    refine l_cmp ?_
    refine k_nil ?_
    refine f_t ?_
    refine k_if h (fun _ h => ?_) (fun _ h => ?_)
    · refine k_skip ?_
      refine f_t ?_
      refine k_seq ?_
      refine k_block ?_
      refine k_seq ?_
      refine k_mix [] (.q 0 (.q 1 (.q 2 (.q 3 (.q 4 (.q 5 (.q 6 (.q 7 (.q 8 (.q 9 (.done))))))))))) hm ?_
      refine gq ?_
      refine n_move ?_
      refine gq ?_
      refine n_move ?_
      refine gq ?_
      refine n_ato h (fun v2 ev2 h => ?_)
      refine gq ?_
      refine n_ldra ev2 ?_
      refine gq ?_
      refine n_move ?_
      refine gq ?_
      refine n_move ?_
      refine gq ?_
      refine n_subw ?_
      refine gq ?_
      refine n_ato h (fun v3 ev3 h => ?_)
      refine gq ?_
      refine n_ldra ev3 ?_
      refine gq ?_
      refine n_eqs (k := .i64) (TPoint.ints v2) (TPoint.ints v3) hs60 he60 ?_
      refine m_nil ?_
      refine f_t ?_
      refine k_if h (fun _ h => ?_) (fun _ h => ?_)
      · refine k_seq ?_
        refine k_reg ?_
        refine l_move ?_
        refine l_move ?_
        refine l_sub0 h (fun h => ?_)
        refine l_assign ?_
        refine k_nil ?_
        refine f_t ?_
        refine k_seq ?_
        refine k_seq ?_
        refine k_reg ?_
        refine l_assign ?_
        refine k_nil ?_
        refine f_t ?_
        refine k_block ?_
        refine k_loop (fun y4 => ⟨[(0, .sl 101 0 y4.2.2.length), (3, I y4.1), (4, .sl 101 (y1.toNat * 3) ((s.length : Int).toNat - y1.toNat)), (5, I y4.2.1)], [(101, .row 3 0 (F c_TPoint y4.2.2))], []⟩) (fun q10 => (.exit 2, ⟨[(0, .sl 101 0 q10.2.length), (3, I q10.1)], [(101, .row 3 0 (F c_TPoint q10.2))], []⟩)) [(101, 101)] hB h (fun y4 t h => ?_) (fun q10 h => ?_)
        · unfold slices_Compact_Point_b2 at h
          refine k_seq ?_
          refine k_seq ?_
          refine k_reg ?_
          refine l_move ?_
          refine l_move ?_
          refine l_len ?_
          refine l_cmp ?_
          refine k_nil ?_
          refine f_t ?_
          refine k_if h (fun _ h => ?_) (fun _ h => ?_)
          · refine k_skip ?_
            refine f_t ?_
            refine k_seq ?_
            refine k_block ?_
            refine k_seq ?_
            refine k_mix [] (.q 0 (.q 1 (.q 2 (.q 3 (.q 4 (.q 5 (.q 6 (.q 7 (.q 8 (.q 9 (.done))))))))))) hm ?_
            refine gq ?_
            refine n_move ?_
            refine gq ?_
            refine n_move ?_
            refine gq ?_
            refine n_atq h (fun v5 ev5 h => ?_)
            refine gq ?_
            refine n_ldra ev5 ?_
            refine gq ?_
            refine n_move ?_
            refine gq ?_
            refine n_move ?_
            refine gq ?_
            refine n_subw ?_
            refine gq ?_
            refine n_atq h (fun v6 ev6 h => ?_)
            refine gq ?_
            refine n_ldra ev6 ?_
            refine gq ?_
            refine n_eqs (k := .i64) (TPoint.ints v5) (TPoint.ints v6) hs60 he60 ?_
            refine m_nil ?_
            refine f_t ?_
            refine k_if h (fun _ h => ?_) (fun _ h => ?_)
            · refine k_seq ?_
              refine k_reg ?_
              refine l_move ?_
              refine l_move ?_
              refine l_move ?_
              refine l_move ?_
              refine l_atq h (fun v7 ev7 h => ?_)
              refine l_ldra ev7 ?_
              refine l_ato h (fun v8 ev8 h => ?_)
              refine l_put0 ev8 h (fun v9 ev9 h => ?_)
              refine k_nil ?_
              refine f_t ?_
              refine k_reg ?_
              refine l_move ?_
              refine l_addw ?_
              refine l_assign ?_
              refine k_nil ?_
              refine f_b ?_
              refine f_t ?_
              refine k_reg ?_
              refine l_move ?_
              refine l_addw ?_
              refine l_assign ?_
              refine k_nil ?_
              refine f_relen 0 v9.length ?_
              exact k_next [(101, 101)] hB h
            refine k_skip ?_
            refine f_b ?_
            refine f_t ?_
            refine k_reg ?_
            refine l_move ?_
            refine l_addw ?_
            refine l_assign ?_
            refine k_nil ?_
            exact k_next [(101, 101)] hB h
          refine k_exit ?_
          refine f_te ?_
          exact k_brk [(101, 101)] hB h
        refine f_be ?_
        refine f_t ?_
        refine k_seq ?_
        refine k_reg ?_
        refine l_move ?_
        refine l_move ?_
        refine l_sub0 h (fun h => ?_)
        refine l_clr (q := q10.1.toNat) (e := c_TPoint) h (fun v11 ev11 h => ?_)
        refine k_nil ?_
        refine f_t ?_
        refine k_seq ?_
        refine k_reg ?_
        refine l_move ?_
        refine l_move ?_
        refine l_subp h (fun h => ?_)
        refine l_assign ?_
        refine k_nil ?_
        refine f_t ?_
        refine k_retc ?_
        refine f_br ?_
        refine f_tr ?_
        refine f_shrink 101 h (fun v12 ev12 h => ?_)
        refine f_relen 2 v12.length ?_
        exact k_brk [(101, 101)] hB h
      refine k_skip ?_
      refine f_b ?_
      refine f_t ?_
      refine k_reg ?_
      refine l_move ?_
      refine l_addw ?_
      refine l_assign ?_
      refine k_nil ?_
      exact k_next [(101, 101)] hB h
    refine k_exit ?_
    refine f_te ?_
    exact k_brk [(101, 101)] hB h
  rcases q with q13 | q14
  · dsimp only [Sum.elim] at h ⊢
    refine f_br ?_
    refine f_tr ?_
    apply k_ret [(101, 101)] hB h
  dsimp only [Sum.elim] at h ⊢
  refine f_be ?_
  refine f_t ?_
  refine k_seq ?_
  refine k_reg ?_
  refine l_move ?_
  refine l_assign ?_
  refine k_nil ?_
  refine f_t ?_
  refine k_retc ?_
  apply k_ret [(101, 101)] hB h
theorem nodes_Of_ok {l : (List TPoint)} {r : (List TPoint)} (h : nodes_Of l = some r) : XSpec Tryd.prog 30 [.vs l.length (F c_TPoint l)] [] (.sl 1 0 r.length) [(1, .row 3 0 (F c_TPoint r))] [] := by
  unfold nodes_Of at h
  refine X_of_run Tryd.hU Tryd.func30 (fun _ _ _ hB => ?_)
  refine k_seq ?_
  refine k_reg ?_
  refine l_assign ?_
  refine k_nil ?_
  refine f_t ?_
  refine k_seq ?_
  refine k_reg ?_
  refine l_move ?_
  refine l_callX [(1, 100501)] [] h (fun _ => slices_Clone_Point_ok) (fun v1 _ h => ?_)
  refine l_assign ?_
  refine k_nil ?_
  refine f_t ?_
  refine k_seq ?_
  refine k_reg ?_
  refine l_move ?_
  refine l_callX [(101, 100501)] [100501] h (fun _ => slices_SortFunc_Point_ok (fun h => point_Compare_ok h) ⟨rfl, rfl⟩) (fun v2 _ h => ?_)
  refine l_eqn h (fun ev4 h => ?_)
  refine k_nil ?_
  refine f_t ?_
  refine k_seq ?_
  refine k_reg ?_
  refine l_move ?_
  refine l_relen 8 v2.length ?_
  refine l_callX [(101, 100501)] [100501] h (fun _ => slices_Compact_Point_ok) (fun v3 _ h => ?_)
  refine l_assign ?_
  refine k_nil ?_
  refine f_t ?_
  refine k_retc ?_
  apply k_ret [(100501, 1)] hB h
theorem value_OfSet_ok {l : (List TPoint)} {r : Int × (List TPoint) × Bool × Int × Bool × Str} (h : value_OfSet l = some r) : XSpec Tryd.prog 11 [.vs l.length (F c_TPoint l)] [] (.agg [I r.1, .sl 1 0 r.2.1.length, B r.2.2.1, I r.2.2.2.1, B r.2.2.2.2.1, S r.2.2.2.2.2]) [(1, .row 3 0 (F c_TPoint r.2.1))] [] := by
  unfold value_OfSet at h
  refine X_of_run Tryd.hU Tryd.func11 (fun _ _ _ hB => ?_)
  refine k_seq ?_
  refine k_reg ?_
  refine l_alloc ?_
  refine k_nil ?_
  refine f_t ?_
  refine k_seq ?_
  refine k_reg ?_
  refine l_move ?_
  refine l_callX [(1, 100401)] [] h (fun _ => nodes_Of_ok) (fun v1 _ h => ?_)
  refine l_build ?_
  refine l_store_box ?_
  refine k_nil ?_
  refine f_t ?_
  refine k_retc ?_
  apply k_ret [(100401, 1)] hB h
theorem value_OfTruth_ok {b : Bool} {r : TValue} (h : value_OfTruth b = some r) : XSpec Tryd.prog 12 [B b] [] (.agg (c_TValue r)) [] [] := by
  unfold value_OfTruth at h
  refine X_of_run Tryd.hU Tryd.func12 (fun _ _ _ hB => ?_)
  refine k_seq ?_
  refine k_reg ?_
  refine l_alloc ?_
  refine k_nil ?_
  refine f_t ?_
  refine k_seq ?_
  refine k_reg ?_
  refine l_move ?_
  refine l_build ?_
  refine l_store_box ?_
  refine k_nil ?_
  refine f_t ?_
  refine k_retc ?_
  apply k_retN [] hB h
theorem value_OfText_ok {s : Str} {r : TValue} (h : value_OfText s = some r) : XSpec Tryd.prog 13 [S s] [] (.agg (c_TValue r)) [] [] := by
  unfold value_OfText at h
  refine X_of_run Tryd.hU Tryd.func13 (fun _ _ _ hB => ?_)
  refine k_seq ?_
  refine k_reg ?_
  refine l_alloc ?_
  refine k_nil ?_
  refine f_t ?_
  refine k_seq ?_
  refine k_reg ?_
  refine l_move ?_
  refine l_build ?_
  refine l_store_box ?_
  refine k_nil ?_
  refine f_t ?_
  refine k_retc ?_
  apply k_retN [] hB h
theorem apostilleref16_Number_ok {n : Int} {r : TValue × Int} (h : apostilleref16_Number n = some r) : XSpec Tryd.prog 15 [I n] [] (.tup [.agg (c_TValue r.1), I r.2]) [] [] := by
  unfold apostilleref16_Number at h
  refine X_of_run Tryd.hU Tryd.func15 (fun _ _ _ hB => ?_)
  refine k_seq ?_
  refine k_reg ?_
  refine l_alloc ?_
  refine l_assign ?_
  refine k_nil ?_
  refine f_t ?_
  refine k_seq ?_
  refine k_seq ?_
  refine k_reg ?_
  refine l_move ?_
  refine l_cmp ?_
  refine l_move ?_
  refine l_split h (fun _ h => ?_) (fun _ h => ?_)
  · refine l_off ?_
    refine l_off ?_
    refine l_pick_true ?_
    refine k_nil ?_
    refine f_t ?_
    refine k_t ?_
    refine k_seq ?_
    refine k_reg ?_
    refine l_build ?_
    refine l_store_box ?_
    refine l_assign ?_
    refine k_nil ?_
    refine f_t ?_
    refine k_retc ?_
    refine f_tr ?_
    apply k_retN [] hB h
  refine l_on ?_
  refine l_move ?_
  refine l_on ?_
  refine l_cmp ?_
  refine l_pick_false ?_
  refine k_nil ?_
  refine f_t ?_
  refine k_if h (fun _ h => ?_) (fun _ h => ?_)
  · refine k_seq ?_
    refine k_reg ?_
    refine l_build ?_
    refine l_store_box ?_
    refine l_assign ?_
    refine k_nil ?_
    refine f_t ?_
    refine k_retc ?_
    refine f_tr ?_
    apply k_retN [] hB h
  refine k_skip ?_
  refine f_t ?_
  refine k_seq ?_
  refine k_reg ?_
  refine l_move ?_
  refine l_build ?_
  refine l_store_box ?_
  refine l_assign ?_
  refine k_nil ?_
  refine f_t ?_
  refine k_retc ?_
  apply k_retN [] hB h
theorem apostilleref10_Less_ok {a : TPoint} {b : TPoint} {r : Bool} (h : apostilleref10_Less a b = some r) : XSpec Tryd.prog 31 [.agg (c_TPoint a), .agg (c_TPoint b)] [] (B r) [] [] := by
  unfold apostilleref10_Less at h
  refine X_of_run Tryd.hU Tryd.func31 (fun _ _ _ hB => ?_)
  refine k_seq ?_
  refine k_reg ?_
  refine l_box ?_
  refine l_box ?_
  refine l_assign ?_
  refine k_nil ?_
  refine f_t ?_
  refine k_seq ?_
  refine k_seq ?_
  refine k_reg ?_
  refine l_fieldAddr ?_
  refine l_load ?_
  refine l_fieldAddr ?_
  refine l_load ?_
  refine l_cmp ?_
  refine k_nil ?_
  refine f_t ?_
  refine k_if h (fun _ h => ?_) (fun _ h => ?_)
  · refine k_seq ?_
    refine k_reg ?_
    refine l_fieldAddr ?_
    refine l_load ?_
    refine l_fieldAddr ?_
    refine l_load ?_
    refine l_cmp ?_
    refine l_assign ?_
    refine k_nil ?_
    refine f_t ?_
    refine k_retc ?_
    refine f_tr ?_
    apply k_ret [] hB h
  refine k_skip ?_
  refine f_t ?_
  refine k_seq ?_
  refine k_seq ?_
  refine k_reg ?_
  refine l_fieldAddr ?_
  refine l_load ?_
  refine l_fieldAddr ?_
  refine l_load ?_
  refine l_cmp ?_
  refine k_nil ?_
  refine f_t ?_
  refine k_if h (fun _ h => ?_) (fun _ h => ?_)
  · refine k_seq ?_
    refine k_reg ?_
    refine l_fieldAddr ?_
    refine l_load ?_
    refine l_fieldAddr ?_
    refine l_load ?_
    refine l_cmp ?_
    refine l_assign ?_
    refine k_nil ?_
    refine f_t ?_
    refine k_retc ?_
    refine f_tr ?_
    apply k_ret [] hB h
  refine k_skip ?_
  refine f_t ?_
  refine k_seq ?_
  refine k_reg ?_
  refine l_fieldAddr ?_
  refine l_load ?_
  refine l_fieldAddr ?_
  refine l_load ?_
  refine l_cmp ?_
  refine l_assign ?_
  refine k_nil ?_
  refine f_t ?_
  refine k_retc ?_
  apply k_ret [] hB h
theorem apostilleref11_Of_ok {l : (List TPoint)} {r : (List TPoint)} (h : apostilleref11_Of l = some r) : XSpec Tryd.prog 18 [.vs l.length (F c_TPoint l)] [] (.sl 1 0 r.length) [(1, .row 3 0 (F c_TPoint r))] [] := by
  unfold apostilleref11_Of at h
  refine X_of_run Tryd.hU Tryd.func18 (fun _ _ _ hB => ?_)
  refine k_seq ?_
  refine k_reg ?_
  refine l_assign ?_
  refine k_nil ?_
  refine f_t ?_
  refine k_seq ?_
  refine k_reg ?_
  refine l_assign ?_
  refine k_nil ?_
  refine f_t ?_
  refine k_seq ?_
  refine k_seq ?_
  refine k_reg ?_
  refine l_move ?_
  refine l_len ?_
  refine l_move ?_
  refine k_nil ?_
  refine f_t ?_
  refine k_block ?_
  refine k_nilrow (t := 3) 3003 3 ?_
  refine k_loop (fun y1 => ⟨[(0, .vs l.length (F c_TPoint l)), (3, .sl 3003 0 y1.2.length), (7, I (l.length : Int)), (8, I y1.1)], [(3003, .row 3 0 (F c_TPoint y1.2))], []⟩) (fun q17 => (.exit 0, ⟨[(3, .sl 3003 0 q17.length)], [(3003, .row 3 0 (F c_TPoint q17))], []⟩)) [(3003, 3003)] hB h (fun y1 t h => ?_) (fun q17 h => ?_)
  · unfold apostilleref11_Of_b1 at h
    refine k_seq ?_
    refine k_reg ?_
    refine l_cmp ?_
    refine k_nil ?_
    refine f_t ?_
    refine k_seq ?_
    refine k_if h (fun _ h => ?_) (fun _ h => ?_)
    · refine k_skip ?_
      refine f_t ?_
      refine k_seq ?_
      refine k_block ?_
      refine k_seq ?_
      refine k_reg ?_
      refine l_move ?_
      refine l_assign ?_
      refine k_nil ?_
      refine f_t ?_
      refine k_seq ?_
      refine k_reg ?_
      refine l_assign ?_
      refine k_nil ?_
      refine f_t ?_
      refine k_seq ?_
      refine k_block ?_
      refine k_loop (fun y2 => ⟨[(0, .vs l.length (F c_TPoint l)), (3, .sl 3003 0 y1.2.length), (4, I y1.1), (5, I y2), (7, I (l.length : Int)), (8, I y1.1)], [(3003, .row 3 0 (F c_TPoint y1.2))], []⟩) (fun q6 => (.exit 2, ⟨[(0, .vs l.length (F c_TPoint l)), (3, .sl 3003 0 y1.2.length), (4, I y1.1), (5, I q6), (7, I (l.length : Int)), (8, I y1.1)], [(3003, .row 3 0 (F c_TPoint y1.2))], []⟩)) [(3003, 3003)] hB h (fun y2 t h => ?_) (fun q6 h => ?_)
      · unfold apostilleref11_Of_b2 at h
        refine k_seq ?_
        refine k_seq ?_
        refine k_mix [] (.q 0 (.q 1 (.q 2 (.q 3 (.q 4 (.q 5 (.q 6 (.q 7 (.q 8 (.q 9 (.q 10 (.q 11 (.q 12 (.e 13 (.q 14 (.done)))))))))))))))) hm ?_
        refine gq ?_
        refine n_move ?_
        refine gq ?_
        refine n_move ?_
        refine gq ?_
        refine n_len ?_
        refine gq ?_
        refine n_cmp ?_
        refine gq ?_
        refine n_move ?_
        refine gq ?_
        refine n_split h (fun _ h => ?_) (fun _ h => ?_)
        · refine n_on ?_
          refine n_move ?_
          refine gq ?_
          refine n_on ?_
          refine n_move ?_
          refine gq ?_
          refine n_on ?_
          refine n_ato h (fun v3 ev3 h => ?_)
          refine gq ?_
          refine n_on ?_
          refine n_ldra ev3 ?_
          refine gq ?_
          refine n_on ?_
          refine n_move ?_
          refine gq ?_
          refine n_on ?_
          refine n_move ?_
          refine gq ?_
          refine n_on ?_
          refine n_at h (fun v4 _ h => ?_)
          refine gq ?_
          refine n_on ?_
          refine n_load_agg ?_
          refine ge ?_
          refine n_on ?_
          refine n_call h (fun _ => apostilleref10_Less_ok) (fun v5 _ h => ?_)
          refine gq ?_
          refine n_pick_true ?_
          refine m_nil ?_
          refine f_t ?_
          refine k_if h (fun _ h => ?_) (fun _ h => ?_)
          · refine k_skip ?_
            refine f_t ?_
            refine k_block ?_
            refine k_reg ?_
            refine l_move ?_
            refine l_addw ?_
            refine l_assign ?_
            refine k_nil ?_
            refine f_b ?_
            exact k_next [(3003, 3003)] hB h
          refine k_exit ?_
          refine f_te ?_
          exact k_brk [(3003, 3003)] hB h
        refine n_off ?_
        refine gq ?_
        refine n_off ?_
        refine gq ?_
        refine n_off ?_
        refine gq ?_
        refine n_off ?_
        refine gq ?_
        refine n_off ?_
        refine gq ?_
        refine n_off ?_
        refine gq ?_
        refine n_off ?_
        refine gq ?_
        refine n_off ?_
        refine ge ?_
        refine n_off ?_
        refine gq ?_
        refine n_pick_false ?_
        refine m_nil ?_
        refine f_t ?_
        refine k_f ?_
        refine k_exit ?_
        refine f_te ?_
        exact k_brk [(3003, 3003)] hB h
      refine f_be ?_
      refine f_t ?_
      refine k_seq ?_
      refine k_seq ?_
      refine k_mix [] (.q 0 (.q 1 (.q 2 (.q 3 (.q 4 (.q 5 (.q 6 (.q 7 (.q 8 (.q 9 (.q 10 (.q 11 (.q 12 (.q 13 (.q 14 (.done)))))))))))))))) hm ?_
      refine gq ?_
      refine n_move ?_
      refine gq ?_
      refine n_move ?_
      refine gq ?_
      refine n_len ?_
      refine gq ?_
      refine n_cmp ?_
      refine gq ?_
      refine n_move ?_
      refine gq ?_
      refine n_split h (fun _ h => ?_) (fun _ h => ?_)
      · refine n_on ?_
        refine n_move ?_
        refine gq ?_
        refine n_on ?_
        refine n_move ?_
        refine gq ?_
        refine n_on ?_
        refine n_ato h (fun v7 ev7 h => ?_)
        refine gq ?_
        refine n_on ?_
        refine n_ldra ev7 ?_
        refine gq ?_
        refine n_on ?_
        refine n_move ?_
        refine gq ?_
        refine n_on ?_
        refine n_move ?_
        refine gq ?_
        refine n_on ?_
        refine n_at h (fun v8 _ h => ?_)
        refine gq ?_
        refine n_on ?_
        refine n_load_agg ?_
        refine gq ?_
        refine n_on ?_
        refine n_eqs (k := .i64) (TPoint.ints v7) (TPoint.ints v8) hs60 he60 ?_
        refine gq ?_
        refine n_pick_true ?_
        refine m_nil ?_
        refine f_t ?_
        refine k_if h (fun _ h => ?_) (fun _ h => ?_)
        · refine k_exit ?_
          refine f_te ?_
          refine f_be ?_
          refine f_t ?_
          refine k_reg ?_
          refine l_addw ?_
          refine l_move ?_
          refine k_nil ?_
          exact k_next [(3003, 3003)] hB h
        refine k_skip ?_
        refine f_t ?_
        refine k_mix [4, 10, 14] (.q 1 (.q 2 (.q 3 (.s 5 (.s 6 (.s 7 (.s 11 (.s 12 (.s 13 (.alt 0 (.alt 4 (.q 8 (.e 9 (.e 10 (.e 14 (.q 15 (.done)))))) (.e 8 (.alt 4 (.e 9 (.e 10 (.e 14 (.q 15 (.done))))) (.e 9 (.e 4 (.e 10 (.e 14 (.q 15 (.done))))))))) (.e 8 (.alt 0 (.alt 4 (.e 9 (.e 10 (.e 14 (.q 15 (.done))))) (.e 9 (.e 4 (.e 10 (.e 14 (.q 15 (.done))))))) (.e 9 (.e 0 (.e 4 (.e 10 (.e 14 (.q 15 (.done))))))))))))))))))) hm ?_
        refine gq ?_
        refine n_move ?_
        refine gq ?_
        refine n_move ?_
        refine gq ?_
        refine n_subp h (fun h => ?_)
        refine gs ?_
        refine x_move ?_
        refine gs ?_
        refine x_move ?_
        refine gs ?_
        refine x_at h (fun v9 _ h => ?_)
        refine gs ?_
        refine x_move ?_
        refine gs ?_
        refine x_move ?_
        refine gs ?_
        refine x_sub0 h (fun h => ?_)
        refine m_alt ?_ ?_
        · refine ge ?_
          refine n_buildSlice0 ?_
          refine m_alt ?_ ?_
          · refine ge ?_
            refine n_app0 h (fun v10 h => ?_)
            refine gq ?_
            refine n_load_agg ?_
            refine ge ?_
            refine n_lit (e := c_TPoint) [v9] ?_
            refine ge ?_
            refine n_appo h (fun v11 _ h => ?_)
            refine ge ?_
            refine n_appq (q := q6.toNat) h (fun v12 h => ?_)
            refine gq ?_
            refine n_assign ?_
            refine m_nil ?_
            refine f_b ?_
            refine f_t ?_
            refine k_reg ?_
            refine l_addw ?_
            refine l_move ?_
            refine k_nil ?_
            exact k_next [(1043, 3003)] hB h
          refine geq ?_
          refine n_load_agg ?_
          refine m_alt ?_ ?_
          · refine ge ?_
            refine n_app0 h (fun v10 h => ?_)
            refine ge ?_
            refine n_lit (e := c_TPoint) [v9] ?_
            refine ge ?_
            refine n_appo h (fun v11 _ h => ?_)
            refine ge ?_
            refine n_appq (q := q6.toNat) h (fun v12 h => ?_)
            refine gq ?_
            refine n_assign ?_
            refine m_nil ?_
            refine f_b ?_
            refine f_t ?_
            refine k_reg ?_
            refine l_addw ?_
            refine l_move ?_
            refine k_nil ?_
            exact k_next [(1043, 3003)] hB h
          refine ge ?_
          refine n_lit (e := c_TPoint) [v9] ?_
          refine ge ?_
          refine n_app0 h (fun v10 h => ?_)
          refine ge ?_
          refine n_appo h (fun v11 _ h => ?_)
          refine ge ?_
          refine n_appq (q := q6.toNat) h (fun v12 h => ?_)
          refine gq ?_
          refine n_assign ?_
          refine m_nil ?_
          refine f_b ?_
          refine f_t ?_
          refine k_reg ?_
          refine l_addw ?_
          refine l_move ?_
          refine k_nil ?_
          exact k_next [(1043, 3003)] hB h
        refine geq ?_
        refine n_load_agg ?_
        refine m_alt ?_ ?_
        · refine ge ?_
          refine n_buildSlice0 ?_
          refine m_alt ?_ ?_
          · refine ge ?_
            refine n_app0 h (fun v10 h => ?_)
            refine ge ?_
            refine n_lit (e := c_TPoint) [v9] ?_
            refine ge ?_
            refine n_appo h (fun v11 _ h => ?_)
            refine ge ?_
            refine n_appq (q := q6.toNat) h (fun v12 h => ?_)
            refine gq ?_
            refine n_assign ?_
            refine m_nil ?_
            refine f_b ?_
            refine f_t ?_
            refine k_reg ?_
            refine l_addw ?_
            refine l_move ?_
            refine k_nil ?_
            exact k_next [(1043, 3003)] hB h
          refine ge ?_
          refine n_lit (e := c_TPoint) [v9] ?_
          refine ge ?_
          refine n_app0 h (fun v10 h => ?_)
          refine ge ?_
          refine n_appo h (fun v11 _ h => ?_)
          refine ge ?_
          refine n_appq (q := q6.toNat) h (fun v12 h => ?_)
          refine gq ?_
          refine n_assign ?_
          refine m_nil ?_
          refine f_b ?_
          refine f_t ?_
          refine k_reg ?_
          refine l_addw ?_
          refine l_move ?_
          refine k_nil ?_
          exact k_next [(1043, 3003)] hB h
        refine ge ?_
        refine n_lit (e := c_TPoint) [v9] ?_
        refine ge ?_
        refine n_buildSlice0 ?_
        refine ge ?_
        refine n_app0 h (fun v10 h => ?_)
        refine ge ?_
        refine n_appo h (fun v11 _ h => ?_)
        refine ge ?_
        refine n_appq (q := q6.toNat) h (fun v12 h => ?_)
        refine gq ?_
        refine n_assign ?_
        refine m_nil ?_
        refine f_b ?_
        refine f_t ?_
        refine k_reg ?_
        refine l_addw ?_
        refine l_move ?_
        refine k_nil ?_
        exact k_next [(1043, 3003)] hB h
      refine n_off ?_
      refine gq ?_
      refine n_off ?_
      refine gq ?_
      refine n_off ?_
      refine gq ?_
      refine n_off ?_
      refine gq ?_
      refine n_off ?_
      refine gq ?_
      refine n_off ?_
      refine gq ?_
      refine n_off ?_
      refine gq ?_
      refine n_off ?_
      refine gq ?_
      refine n_off ?_
      refine gq ?_
      refine n_pick_false ?_
      refine m_nil ?_
      refine f_t ?_
      refine k_f ?_
      refine k_skip ?_
      refine f_t ?_
      refine k_mix [4, 10, 14] (.q 1 (.q 2 (.q 3 (.s 5 (.s 6 (.s 7 (.s 11 (.s 12 (.s 13 (.alt 0 (.alt 4 (.q 8 (.e 9 (.e 10 (.e 14 (.q 15 (.done)))))) (.e 8 (.alt 4 (.e 9 (.e 10 (.e 14 (.q 15 (.done))))) (.e 9 (.e 4 (.e 10 (.e 14 (.q 15 (.done))))))))) (.e 8 (.alt 0 (.alt 4 (.e 9 (.e 10 (.e 14 (.q 15 (.done))))) (.e 9 (.e 4 (.e 10 (.e 14 (.q 15 (.done))))))) (.e 9 (.e 0 (.e 4 (.e 10 (.e 14 (.q 15 (.done))))))))))))))))))) hm ?_
      refine gq ?_
      refine n_move ?_
      refine gq ?_
      refine n_move ?_
      refine gq ?_
      refine n_subp h (fun h => ?_)
      refine gs ?_
      refine x_move ?_
      refine gs ?_
      refine x_move ?_
      refine gs ?_
      refine x_at h (fun v13 _ h => ?_)
      refine gs ?_
      refine x_move ?_
      refine gs ?_
      refine x_move ?_
      refine gs ?_
      refine x_sub0 h (fun h => ?_)
      refine m_alt ?_ ?_
      · refine ge ?_
        refine n_buildSlice0 ?_
        refine m_alt ?_ ?_
        · refine ge ?_
          refine n_app0 h (fun v14 h => ?_)
          refine gq ?_
          refine n_load_agg ?_
          refine ge ?_
          refine n_lit (e := c_TPoint) [v13] ?_
          refine ge ?_
          refine n_appo h (fun v15 _ h => ?_)
          refine ge ?_
          refine n_appq (q := q6.toNat) h (fun v16 h => ?_)
          refine gq ?_
          refine n_assign ?_
          refine m_nil ?_
          refine f_b ?_
          refine f_t ?_
          refine k_reg ?_
          refine l_addw ?_
          refine l_move ?_
          refine k_nil ?_
          exact k_next [(1043, 3003)] hB h
        refine geq ?_
        refine n_load_agg ?_
        refine m_alt ?_ ?_
        · refine ge ?_
          refine n_app0 h (fun v14 h => ?_)
          refine ge ?_
          refine n_lit (e := c_TPoint) [v13] ?_
          refine ge ?_
          refine n_appo h (fun v15 _ h => ?_)
          refine ge ?_
          refine n_appq (q := q6.toNat) h (fun v16 h => ?_)
          refine gq ?_
          refine n_assign ?_
          refine m_nil ?_
          refine f_b ?_
          refine f_t ?_
          refine k_reg ?_
          refine l_addw ?_
          refine l_move ?_
          refine k_nil ?_
          exact k_next [(1043, 3003)] hB h
        refine ge ?_
        refine n_lit (e := c_TPoint) [v13] ?_
        refine ge ?_
        refine n_app0 h (fun v14 h => ?_)
        refine ge ?_
        refine n_appo h (fun v15 _ h => ?_)
        refine ge ?_
        refine n_appq (q := q6.toNat) h (fun v16 h => ?_)
        refine gq ?_
        refine n_assign ?_
        refine m_nil ?_
        refine f_b ?_
        refine f_t ?_
        refine k_reg ?_
        refine l_addw ?_
        refine l_move ?_
        refine k_nil ?_
        exact k_next [(1043, 3003)] hB h
      refine geq ?_
      refine n_load_agg ?_
      refine m_alt ?_ ?_
      · refine ge ?_
        refine n_buildSlice0 ?_
        refine m_alt ?_ ?_
        · refine ge ?_
          refine n_app0 h (fun v14 h => ?_)
          refine ge ?_
          refine n_lit (e := c_TPoint) [v13] ?_
          refine ge ?_
          refine n_appo h (fun v15 _ h => ?_)
          refine ge ?_
          refine n_appq (q := q6.toNat) h (fun v16 h => ?_)
          refine gq ?_
          refine n_assign ?_
          refine m_nil ?_
          refine f_b ?_
          refine f_t ?_
          refine k_reg ?_
          refine l_addw ?_
          refine l_move ?_
          refine k_nil ?_
          exact k_next [(1043, 3003)] hB h
        refine ge ?_
        refine n_lit (e := c_TPoint) [v13] ?_
        refine ge ?_
        refine n_app0 h (fun v14 h => ?_)
        refine ge ?_
        refine n_appo h (fun v15 _ h => ?_)
        refine ge ?_
        refine n_appq (q := q6.toNat) h (fun v16 h => ?_)
        refine gq ?_
        refine n_assign ?_
        refine m_nil ?_
        refine f_b ?_
        refine f_t ?_
        refine k_reg ?_
        refine l_addw ?_
        refine l_move ?_
        refine k_nil ?_
        exact k_next [(1043, 3003)] hB h
      refine ge ?_
      refine n_lit (e := c_TPoint) [v13] ?_
      refine ge ?_
      refine n_buildSlice0 ?_
      refine ge ?_
      refine n_app0 h (fun v14 h => ?_)
      refine ge ?_
      refine n_appo h (fun v15 _ h => ?_)
      refine ge ?_
      refine n_appq (q := q6.toNat) h (fun v16 h => ?_)
      refine gq ?_
      refine n_assign ?_
      refine m_nil ?_
      refine f_b ?_
      refine f_t ?_
      refine k_reg ?_
      refine l_addw ?_
      refine l_move ?_
      refine k_nil ?_
      exact k_next [(1043, 3003)] hB h
    refine k_exit ?_
    refine f_te ?_
    exact k_brk [(3003, 3003)] hB h
  refine f_be ?_
  refine f_t ?_
  refine k_seq ?_
  refine k_reg ?_
  refine l_move ?_
  refine l_assign ?_
  refine k_nil ?_
  refine f_t ?_
  refine k_retc ?_
  apply k_ret [(3003, 1)] hB h
theorem apostillelaw16_ValueMakes_ok {l : (List TPoint)} {n : Int} {s : Str} {b : Bool} {r : Bool} (h : apostillelaw16_ValueMakes l n s b = some r) : XSpec Tryd.prog 4 [.vs l.length (F c_TPoint l), I n, S s, B b] [] (B r) [] [] := by
  unfold apostillelaw16_ValueMakes at h
  refine X_of_run Tryd.hU Tryd.func4 (fun _ _ _ hB => ?_)
  refine k_seq ?_
  refine k_reg ?_
  refine l_assign ?_
  refine k_nil ?_
  refine f_t ?_
  refine k_seq ?_
  refine k_seq ?_
  refine k_cut (fun q2 => (.normal, ⟨[(0, .vs l.length (F c_TPoint l)), (1, I n), (2, S s), (3, B b), (28, B q2)], [], []⟩)) h (fun t h => ?_) (fun q2 h => ?_)
  · refine k_reg ?_
    refine l_call h (fun _ => apostillelaw16_awake_ok) (fun v1 _ h => ?_)
    refine l_un ?_
    refine l_move ?_
    refine l_split h (fun _ h => ?_) (fun _ h => ?_)
    · refine l_off ?_
      refine l_off ?_
      refine l_off ?_
      refine l_pick_true ?_
      refine l_move ?_
      refine l_off ?_
      refine l_off ?_
      refine l_off ?_
      refine l_pick_true ?_
      refine k_nil ?_
      exact k_out [] hB h
    refine l_on ?_
    refine l_move ?_
    refine l_on ?_
    refine l_len ?_
    refine l_on ?_
    refine l_cmp ?_
    refine l_pick_false ?_
    refine l_move ?_
    refine l_split h (fun _ h => ?_) (fun _ h => ?_)
    · refine l_off ?_
      refine l_off ?_
      refine l_off ?_
      refine l_pick_true ?_
      refine k_nil ?_
      exact k_out [] hB h
    refine l_on ?_
    refine l_move ?_
    refine l_on ?_
    refine l_lens ?_
    refine l_on ?_
    refine l_cmp ?_
    refine l_pick_false ?_
    refine k_nil ?_
    exact k_out [] hB h
  refine f_t ?_
  refine k_if h (fun _ h => ?_) (fun _ h => ?_)
  · refine k_seq ?_
    refine k_reg ?_
    refine l_call h (fun _ => apostillelaw16_awake_ok) (fun v3 _ h => ?_)
    refine l_assign ?_
    refine k_nil ?_
    refine f_t ?_
    refine k_retc ?_
    refine f_tr ?_
    apply k_ret [] hB h
  refine k_skip ?_
  refine f_t ?_
  refine k_seq ?_
  refine k_reg ?_
  refine l_move ?_
  refine l_callX [(1, 103101)] [] h (fun _ => value_OfSet_ok) (fun v4 _ h => ?_)
  refine l_move ?_
  refine l_call h (fun _ => value_OfTruth_ok) (fun v5 _ h => ?_)
  refine l_to [(103101, 103101)] ⟨[(0, .vs l.length (F c_TPoint l)), (1, I n), (2, S s), (3, B b), (31, .agg [I v4.1, .sl 103101 0 v4.2.1.length, B v4.2.2.1, I v4.2.2.2.1, B v4.2.2.2.2.1, S v4.2.2.2.2.2]), (33, .agg (c_TValue v5))], [(103101, .row 3 0 (F c_TPoint v4.2.1))], []⟩ hB ?_
  refine l_move ?_
  refine l_call h (fun _ => value_OfText_ok) (fun v6 _ h => ?_)
  refine l_alloc ?_
  refine l_alloc ?_
  refine l_alloc ?_
  refine l_store_box ?_
  refine l_store_box ?_
  refine l_store_box ?_
  refine k_nil ?_
  refine f_t ?_
  refine k_seq ?_
  refine k_reg ?_
  refine l_move ?_
  refine l_call h (fun _ => value_OfNumber_ok) (fun v7 _ h => ?_)
  refine l_move ?_
  refine l_extract ?_
  refine l_extract ?_
  refine l_alloc ?_
  refine l_store_box ?_
  refine l_assign ?_
  refine k_nil ?_
  refine f_t ?_
  refine k_seq ?_
  refine k_reg ?_
  refine l_move ?_
  refine l_call h (fun _ => apostilleref16_Number_ok) (fun v8 _ h => ?_)
  refine l_move ?_
  refine l_extract ?_
  refine l_extract ?_
  refine l_alloc ?_
  refine l_store_box ?_
  refine l_assign ?_
  refine k_nil ?_
  refine f_t ?_
  refine k_seq ?_
  refine k_seq ?_
  refine k_cut (fun q13 => (.normal, ⟨[(0, .vs l.length (F c_TPoint l)), (2, S s), (3, B b), (9, .ptr 1009 0), (10, .ptr 1010 0), (11, .ptr 1011 0), (12, .ptr 1012 0), (14, .ptr 1014 0), (60, B q13)], [(1009, .box [I v4.1, .sl 103101 0 v4.2.1.length, B v4.2.2.1, I v4.2.2.2.1, B v4.2.2.2.2.1, S v4.2.2.2.2.2]), (1010, .box [I v5.Kind, .vs v5.Set.length (F c_TPoint v5.Set), B v5.Bool_, I v5.N, B v5.NaN, S v5.Text]), (1011, .box [I v6.Kind, .vs v6.Set.length (F c_TPoint v6.Set), B v6.Bool_, I v6.N, B v6.NaN, S v6.Text]), (1012, .box [I v7.1.Kind, .vs v7.1.Set.length (F c_TPoint v7.1.Set), B v7.1.Bool_, I v7.1.N, B v7.1.NaN, S v7.1.Text]), (1014, .box [I v8.1.Kind, .vs v8.1.Set.length (F c_TPoint v8.1.Set), B v8.1.Bool_, I v8.1.N, B v8.1.NaN, S v8.1.Text]), (103101, .row 3 0 (F c_TPoint v4.2.1))], []⟩)) h (fun t h => ?_) (fun q13 h => ?_)
  · refine k_reg ?_
    refine l_load_agg ?_
    refine l_load_agg ?_
    refine l_call h (fun _ => apostilleref16_Same_ok) (fun v9 _ h => ?_)
    refine l_un ?_
    refine l_move ?_
    refine l_split h (fun _ h => ?_) (fun _ h => ?_)
    · refine l_off ?_
      refine l_off ?_
      refine l_off ?_
      refine l_pick_true ?_
      refine l_move ?_
      refine l_off ?_
      refine l_off ?_
      refine l_off ?_
      refine l_off ?_
      refine l_pick_true ?_
      refine k_nil ?_
      exact k_out [(1009, 1009), (1010, 1010), (1011, 1011), (1012, 1012), (1014, 1014), (103101, 103101)] hB h
    refine l_on ?_
    refine l_move ?_
    refine l_on ?_
    refine l_move ?_
    refine l_on ?_
    refine l_cmp ?_
    refine l_pick_false ?_
    refine l_move ?_
    refine l_split h (fun _ h => ?_) (fun _ h => ?_)
    · refine l_off ?_
      refine l_off ?_
      refine l_off ?_
      refine l_off ?_
      refine l_pick_true ?_
      refine k_nil ?_
      exact k_out [(1009, 1009), (1010, 1010), (1011, 1011), (1012, 1012), (1014, 1014), (103101, 103101)] hB h
    refine l_on ?_
    refine l_call h (fun _ => value_None_ok) (fun v10 _ h => ?_)
    refine l_to [(1009, 1009), (1010, 1010), (1011, 1011), (1012, 1012), (1014, 1014), (103101, 103101)] ⟨[(0, .vs l.length (F c_TPoint l)), (2, S s), (3, B b), (9, .ptr 1009 0), (10, .ptr 1010 0), (11, .ptr 1011 0), (12, .ptr 1012 0), (14, .ptr 1014 0), (55, B false), (56, .agg (c_TValue v10))], [(1009, .box [I v4.1, .sl 103101 0 v4.2.1.length, B v4.2.2.1, I v4.2.2.2.1, B v4.2.2.2.2.1, S v4.2.2.2.2.2]), (1010, .box [I v5.Kind, .vs v5.Set.length (F c_TPoint v5.Set), B v5.Bool_, I v5.N, B v5.NaN, S v5.Text]), (1011, .box [I v6.Kind, .vs v6.Set.length (F c_TPoint v6.Set), B v6.Bool_, I v6.N, B v6.NaN, S v6.Text]), (1012, .box [I v7.1.Kind, .vs v7.1.Set.length (F c_TPoint v7.1.Set), B v7.1.Bool_, I v7.1.N, B v7.1.NaN, S v7.1.Text]), (1014, .box [I v8.1.Kind, .vs v8.1.Set.length (F c_TPoint v8.1.Set), B v8.1.Bool_, I v8.1.N, B v8.1.NaN, S v8.1.Text]), (103101, .row 3 0 (F c_TPoint v4.2.1))], []⟩ hB ?_
    refine l_on ?_
    refine l_call h (fun _ => apostilleref16_None_ok) (fun v11 _ h => ?_)
    refine l_on ?_
    refine l_call h (fun _ => apostilleref16_Same_ok) (fun v12 _ h => ?_)
    refine l_to [(1009, 1009), (1010, 1010), (1011, 1011), (1012, 1012), (1014, 1014), (103101, 103101)] ⟨[(0, .vs l.length (F c_TPoint l)), (2, S s), (3, B b), (9, .ptr 1009 0), (10, .ptr 1010 0), (11, .ptr 1011 0), (12, .ptr 1012 0), (14, .ptr 1014 0), (55, B false), (58, B v12)], [(1009, .box [I v4.1, .sl 103101 0 v4.2.1.length, B v4.2.2.1, I v4.2.2.2.1, B v4.2.2.2.2.1, S v4.2.2.2.2.2]), (1010, .box [I v5.Kind, .vs v5.Set.length (F c_TPoint v5.Set), B v5.Bool_, I v5.N, B v5.NaN, S v5.Text]), (1011, .box [I v6.Kind, .vs v6.Set.length (F c_TPoint v6.Set), B v6.Bool_, I v6.N, B v6.NaN, S v6.Text]), (1012, .box [I v7.1.Kind, .vs v7.1.Set.length (F c_TPoint v7.1.Set), B v7.1.Bool_, I v7.1.N, B v7.1.NaN, S v7.1.Text]), (1014, .box [I v8.1.Kind, .vs v8.1.Set.length (F c_TPoint v8.1.Set), B v8.1.Bool_, I v8.1.N, B v8.1.NaN, S v8.1.Text]), (103101, .row 3 0 (F c_TPoint v4.2.1))], []⟩ hB ?_
    refine l_on ?_
    refine l_un ?_
    refine l_pick_false ?_
    refine k_nil ?_
    exact k_out [(1009, 1009), (1010, 1010), (1011, 1011), (1012, 1012), (1014, 1014), (103101, 103101)] hB h
  refine f_t ?_
  refine k_if h (fun _ h => ?_) (fun _ h => ?_)
  · refine k_seq ?_
    refine k_reg ?_
    refine l_assign ?_
    refine k_nil ?_
    refine f_t ?_
    refine k_retc ?_
    refine f_tr ?_
    apply k_ret [] hB h
  refine k_skip ?_
  refine f_t ?_
  refine k_seq ?_
  refine k_cut (fun q18 => (.normal, ⟨[(9, .ptr 1009 0), (10, .ptr 1010 0), (11, .ptr 1011 0), (12, .ptr 1012 0), (14, .ptr 1014 0), (16, B q18)], [(1009, .box [I v4.1, .sl 103101 0 v4.2.1.length, B v4.2.2.1, I v4.2.2.2.1, B v4.2.2.2.2.1, S v4.2.2.2.2.2]), (1010, .box [I v5.Kind, .vs v5.Set.length (F c_TPoint v5.Set), B v5.Bool_, I v5.N, B v5.NaN, S v5.Text]), (1011, .box [I v6.Kind, .vs v6.Set.length (F c_TPoint v6.Set), B v6.Bool_, I v6.N, B v6.NaN, S v6.Text]), (1012, .box [I v7.1.Kind, .vs v7.1.Set.length (F c_TPoint v7.1.Set), B v7.1.Bool_, I v7.1.N, B v7.1.NaN, S v7.1.Text]), (1014, .box [I v8.1.Kind, .vs v8.1.Set.length (F c_TPoint v8.1.Set), B v8.1.Bool_, I v8.1.N, B v8.1.NaN, S v8.1.Text]), (103101, .row 3 0 (F c_TPoint v4.2.1))], []⟩)) h (fun t h => ?_) (fun q18 h => ?_)
  · refine k_mix [] (.q 0 (.q 1 (.e 2 (.q 3 (.e 4 (.q 5 (.q 6 (.q 7 (.q 8 (.e 9 (.q 10 (.q 11 (.q 12 (.q 13 (.q 14 (.e 15 (.q 16 (.q 17 (.done))))))))))))))))))) hm ?_
    refine gq ?_
    refine n_load_agg ?_
    refine gq ?_
    refine n_move ?_
    refine ge ?_
    refine n_callX [(1, 106301)] [] h (fun _ => apostilleref11_Of_ok) (fun v14 _ h => ?_)
    refine gq ?_
    refine n_build ?_
    refine ge ?_
    refine n_callB h (fun _ => apostilleref16_Same_ok) (fun v15 _ h => ?_)
    refine gq ?_
    refine n_move ?_
    refine gq ?_
    refine n_split h (fun _ h => ?_) (fun _ h => ?_)
    · refine n_on ?_
      refine n_load_agg ?_
      refine gq ?_
      refine n_on ?_
      refine n_move ?_
      refine gq ?_
      refine n_on ?_
      refine n_build ?_
      refine ge ?_
      refine n_on ?_
      refine n_callN h (fun _ => apostilleref16_Same_ok) (fun v16 _ h => ?_)
      refine gq ?_
      refine n_pick_true ?_
      refine gq ?_
      refine n_move ?_
      refine gq ?_
      refine n_split h (fun _ h => ?_) (fun _ h => ?_)
      · refine n_on ?_
        refine n_load_agg ?_
        refine gq ?_
        refine n_on ?_
        refine n_move ?_
        refine gq ?_
        refine n_on ?_
        refine n_build ?_
        refine ge ?_
        refine n_on ?_
        refine n_callN h (fun _ => apostilleref16_Same_ok) (fun v17 _ h => ?_)
        refine gq ?_
        refine n_pick_true ?_
        refine gq ?_
        refine n_assign ?_
        refine m_nil ?_
        exact k_out [(1009, 1009), (1010, 1010), (1011, 1011), (1012, 1012), (1014, 1014), (103101, 103101)] hB h
      refine n_off ?_
      refine gq ?_
      refine n_off ?_
      refine gq ?_
      refine n_off ?_
      refine ge ?_
      refine n_off ?_
      refine gq ?_
      refine n_pick_false ?_
      refine gq ?_
      refine n_assign ?_
      refine m_nil ?_
      exact k_out [(1009, 1009), (1010, 1010), (1011, 1011), (1012, 1012), (1014, 1014), (103101, 103101)] hB h
    refine n_off ?_
    refine gq ?_
    refine n_off ?_
    refine gq ?_
    refine n_off ?_
    refine ge ?_
    refine n_off ?_
    refine gq ?_
    refine n_pick_false ?_
    refine gq ?_
    refine n_move ?_
    refine gq ?_
    refine n_off ?_
    refine gq ?_
    refine n_off ?_
    refine gq ?_
    refine n_off ?_
    refine ge ?_
    refine n_off ?_
    refine gq ?_
    refine n_pick_false ?_
    refine gq ?_
    refine n_assign ?_
    refine m_nil ?_
    exact k_out [(1009, 1009), (1010, 1010), (1011, 1011), (1012, 1012), (1014, 1014), (103101, 103101)] hB h
  refine f_t ?_
  refine k_seq ?_
  refine k_mix [] (.q 0 (.q 1 (.q 2 (.q 3 (.e 4 (.q 5 (.q 6 (.q 7 (.q 8 (.e 9 (.q 10 (.q 11 (.q 12 (.q 13 (.q 14 (.q 17 (.q 18 (.e 15 (.q 16 (.e 19 (.q 20 (.q 21 (.q 22 (.q 23 (.done))))))))))))))))))))))))) hm ?_
  refine gq ?_
  refine n_move ?_
  refine gq ?_
  refine n_move ?_
  refine gq ?_
  refine n_split h (fun _ h => ?_) (fun _ h => ?_)
  · refine n_on ?_
    refine n_load_agg ?_
    refine gq ?_
    refine n_on ?_
    refine n_load_agg ?_
    refine ge ?_
    refine n_on ?_
    refine n_callB h (fun _ => value_Same_ok) (fun v19 _ h => ?_)
    refine gq ?_
    refine n_pick_true ?_
    refine gq ?_
    refine n_move ?_
    refine gq ?_
    refine n_split h (fun _ h => ?_) (fun _ h => ?_)
    · refine n_on ?_
      refine n_load_agg ?_
      refine gq ?_
      refine n_on ?_
      refine n_load_agg ?_
      refine ge ?_
      refine n_on ?_
      refine n_call h (fun _ => value_Same_ok) (fun v20 _ h => ?_)
      refine gq ?_
      refine n_on ?_
      refine n_un ?_
      refine gq ?_
      refine n_pick_true ?_
      refine gq ?_
      refine n_move ?_
      refine gq ?_
      refine n_split h (fun _ h => ?_) (fun _ h => ?_)
      · refine n_on ?_
        refine n_load_agg ?_
        refine gq ?_
        refine n_on ?_
        refine n_load_agg ?_
        refine gq ?_
        refine n_on ?_
        refine n_load_agg ?_
        refine gq ?_
        refine n_on ?_
        refine n_load_agg ?_
        refine ge ?_
        refine n_on ?_
        refine n_callB h (fun _ => value_Same_ok) (fun v21 _ h => ?_)
        refine gq ?_
        refine n_on ?_
        refine n_un ?_
        refine ge ?_
        refine n_on ?_
        refine n_callB h (fun _ => apostilleref16_Same_ok) (fun v22 _ h => ?_)
        refine gq ?_
        refine n_on ?_
        refine n_un ?_
        refine gq ?_
        refine n_on ?_
        refine n_bool ?_
        refine gq ?_
        refine n_pick_true ?_
        refine gq ?_
        refine n_assign ?_
        refine m_nil ?_
        refine f_t ?_
        refine k_retc ?_
        apply k_ret [] hB h
      refine n_off ?_
      refine gq ?_
      refine n_off ?_
      refine gq ?_
      refine n_off ?_
      refine gq ?_
      refine n_off ?_
      refine ge ?_
      refine n_off ?_
      refine gq ?_
      refine n_off ?_
      refine ge ?_
      refine n_off ?_
      refine gq ?_
      refine n_off ?_
      refine gq ?_
      refine n_off ?_
      refine gq ?_
      refine n_pick_false ?_
      refine gq ?_
      refine n_assign ?_
      refine m_nil ?_
      refine f_t ?_
      refine k_retc ?_
      apply k_ret [] hB h
    refine n_off ?_
    refine gq ?_
    refine n_off ?_
    refine ge ?_
    refine n_off ?_
    refine gq ?_
    refine n_off ?_
    refine gq ?_
    refine n_pick_false ?_
    refine gq ?_
    refine n_move ?_
    refine gq ?_
    refine n_off ?_
    refine gq ?_
    refine n_off ?_
    refine gq ?_
    refine n_off ?_
    refine gq ?_
    refine n_off ?_
    refine ge ?_
    refine n_off ?_
    refine gq ?_
    refine n_off ?_
    refine ge ?_
    refine n_off ?_
    refine gq ?_
    refine n_off ?_
    refine gq ?_
    refine n_off ?_
    refine gq ?_
    refine n_pick_false ?_
    refine gq ?_
    refine n_assign ?_
    refine m_nil ?_
    refine f_t ?_
    refine k_retc ?_
    apply k_ret [] hB h
  refine n_off ?_
  refine gq ?_
  refine n_off ?_
  refine ge ?_
  refine n_off ?_
  refine gq ?_
  refine n_pick_false ?_
  refine gq ?_
  refine n_move ?_
  refine gq ?_
  refine n_off ?_
  refine gq ?_
  refine n_off ?_
  refine ge ?_
  refine n_off ?_
  refine gq ?_
  refine n_off ?_
  refine gq ?_
  refine n_pick_false ?_
  refine gq ?_
  refine n_move ?_
  refine gq ?_
  refine n_off ?_
  refine gq ?_
  refine n_off ?_
  refine gq ?_
  refine n_off ?_
  refine gq ?_
  refine n_off ?_
  refine ge ?_
  refine n_off ?_
  refine gq ?_
  refine n_off ?_
  refine ge ?_
  refine n_off ?_
  refine gq ?_
  refine n_off ?_
  refine gq ?_
  refine n_off ?_
  refine gq ?_
  refine n_pick_false ?_
  refine gq ?_
  refine n_assign ?_
  refine m_nil ?_
  refine f_t ?_
  refine k_retc ?_
  apply k_ret [] hB h
theorem strconv_FormatInt_ok {i base : Int} {r : Str} (h : strconv_FormatInt i base = some r) : XSpec Tryd.prog 34 [I i, I base] [] (S r) [] [] := by
  unfold strconv_FormatInt at h
  cases e : decide (base = 10 ∧ -9223372036854775808 ≤ i ∧ i ≤ 9223372036854775807) with
  | false => rw [e] at h; cases h
  | true =>
    rw [e] at h; cases h
    obtain ⟨rfl, h1, h2⟩ := of_decide_eq_true e
    exact fmt_x Tryd.fmt34 (g := fmtG) (j := 0) (by kernel_rfl) rfl (fun es w => enters_of Tryd.func34 (by kernel_rfl) rfl es w) i ⟨h1, h2⟩
theorem value_AsText_ok {d : (Option TDoc)} {v_ : TValue} {r : Str} (h : value_AsText d v_ = some r) : XSpec Tryd.prog 20 [oP c_TDoc d, .agg (c_TValue v_)] [] (S r) [] [] := by
  unfold value_AsText at h
  refine X_of_run Tryd.hU Tryd.func20 (fun _ _ _ hB => ?_)
  refine k_seq ?_
  refine k_reg ?_
  refine l_box ?_
  refine l_assign ?_
  refine k_nil ?_
  refine f_t ?_
  refine k_seq ?_
  refine k_block ?_
  refine k_seq ?_
  refine k_cut (fun q1 => (.normal, ⟨[(0, oP c_TDoc d), (3, .ptr 1003 0), (5, B q1)], [(1003, .box [I v_.Kind, .vs v_.Set.length (F c_TPoint v_.Set), B v_.Bool_, I v_.N, B v_.NaN, S v_.Text])], []⟩)) h (fun t h => ?_) (fun q1 h => ?_)
  · refine k_reg ?_
    refine l_fieldAddr ?_
    refine l_load ?_
    refine l_cmp ?_
    refine l_move ?_
    refine l_split h (fun _ h => ?_) (fun _ h => ?_)
    · refine l_on ?_
      refine l_fieldAddr ?_
      refine l_on ?_
      refine l_load ?_
      refine l_on ?_
      refine l_len ?_
      refine l_on ?_
      refine l_cmp ?_
      refine l_pick_true ?_
      refine l_assign ?_
      refine k_nil ?_
      exact k_out [(1003, 1003)] hB h
    refine l_off ?_
    refine l_off ?_
    refine l_off ?_
    refine l_off ?_
    refine l_pick_false ?_
    refine l_assign ?_
    refine k_nil ?_
    exact k_out [(1003, 1003)] hB h
  refine f_t ?_
  refine k_if h (fun _ h => ?_) (fun _ h => ?_)
  · refine k_seq ?_
    refine k_reg ?_
    refine l_move ?_
    refine l_fieldAddr ?_
    refine l_load ?_
    cases h
  refine k_seq ?_
  refine k_cut (fun q3 => (.normal, ⟨[(3, .ptr 1003 0), (21, B q3)], [(1003, .box [I v_.Kind, .vs v_.Set.length (F c_TPoint v_.Set), B v_.Bool_, I v_.N, B v_.NaN, S v_.Text])], []⟩)) h (fun t h => ?_) (fun q3 h => ?_)
  · refine k_reg ?_
    refine l_fieldAddr ?_
    refine l_load ?_
    refine l_cmp ?_
    refine l_move ?_
    refine l_split h (fun _ h => ?_) (fun _ h => ?_)
    · refine l_on ?_
      refine l_fieldAddr ?_
      refine l_on ?_
      refine l_load ?_
      refine l_pick_true ?_
      refine l_assign ?_
      refine k_nil ?_
      exact k_out [(1003, 1003)] hB h
    refine l_off ?_
    refine l_off ?_
    refine l_pick_false ?_
    refine l_assign ?_
    refine k_nil ?_
    exact k_out [(1003, 1003)] hB h
  refine f_t ?_
  refine k_if h (fun _ h => ?_) (fun _ h => ?_)
  · refine k_seq ?_
    refine k_reg ?_
    refine l_assign ?_
    refine k_nil ?_
    refine f_t ?_
    refine k_retc ?_
    refine f_br ?_
    refine f_tr ?_
    apply k_ret [] hB h
  refine k_seq ?_
  refine k_reg ?_
  refine l_fieldAddr ?_
  refine l_load ?_
  refine l_cmp ?_
  refine l_assign ?_
  refine k_nil ?_
  refine f_t ?_
  refine k_if h (fun _ h => ?_) (fun _ h => ?_)
  · refine k_seq ?_
    refine k_reg ?_
    refine l_assign ?_
    refine k_nil ?_
    refine f_t ?_
    refine k_retc ?_
    refine f_br ?_
    refine f_tr ?_
    apply k_ret [] hB h
  refine k_seq ?_
  refine k_reg ?_
  refine l_fieldAddr ?_
  refine l_load ?_
  refine l_cmp ?_
  refine l_move ?_
  refine l_split h (fun _ h => ?_) (fun _ h => ?_)
  · refine l_on ?_
    refine l_fieldAddr ?_
    refine l_on ?_
    refine l_load ?_
    refine l_pick_true ?_
    refine l_assign ?_
    refine k_nil ?_
    refine f_t ?_
    refine k_if h (fun _ h => ?_) (fun _ h => ?_)
    · refine k_seq ?_
      refine k_reg ?_
      refine l_assign ?_
      refine k_nil ?_
      refine f_t ?_
      refine k_retc ?_
      refine f_br ?_
      refine f_tr ?_
      apply k_ret [] hB h
    refine k_seq ?_
    refine k_reg ?_
    refine l_fieldAddr ?_
    refine l_load ?_
    refine l_cmp ?_
    refine l_assign ?_
    refine k_nil ?_
    refine f_t ?_
    refine k_if h (fun _ h => ?_) (fun _ h => ?_)
    · refine k_seq ?_
      refine k_reg ?_
      refine l_fieldAddr ?_
      refine l_load ?_
      refine l_call h (fun _ => strconv_FormatInt_ok) (fun v4 _ h => ?_)
      refine l_assign ?_
      refine k_nil ?_
      refine f_t ?_
      refine k_retc ?_
      refine f_br ?_
      refine f_tr ?_
      apply k_ret [] hB h
    refine k_seq ?_
    refine k_reg ?_
    refine l_fieldAddr ?_
    refine l_load ?_
    refine l_cmp ?_
    refine l_assign ?_
    refine k_nil ?_
    refine f_t ?_
    refine k_if h (fun _ h => ?_) (fun _ h => ?_)
    · refine k_seq ?_
      refine k_reg ?_
      refine l_fieldAddr ?_
      refine l_load ?_
      refine l_assign ?_
      refine k_nil ?_
      refine f_t ?_
      refine k_retc ?_
      refine f_br ?_
      refine f_tr ?_
      apply k_ret [] hB h
    refine k_skip ?_
    refine f_b ?_
    refine f_t ?_
    refine k_seq ?_
    refine k_reg ?_
    refine l_assign ?_
    refine k_nil ?_
    refine f_t ?_
    refine k_retc ?_
    apply k_ret [] hB h
  refine l_off ?_
  refine l_off ?_
  refine l_pick_false ?_
  refine l_assign ?_
  refine k_nil ?_
  refine f_t ?_
  refine k_f ?_
  refine k_seq ?_
  refine k_reg ?_
  refine l_fieldAddr ?_
  refine l_load ?_
  refine l_cmp ?_
  refine l_assign ?_
  refine k_nil ?_
  refine f_t ?_
  refine k_if h (fun _ h => ?_) (fun _ h => ?_)
  · refine k_seq ?_
    refine k_reg ?_
    refine l_fieldAddr ?_
    refine l_load ?_
    refine l_call h (fun _ => strconv_FormatInt_ok) (fun v5 _ h => ?_)
    refine l_assign ?_
    refine k_nil ?_
    refine f_t ?_
    refine k_retc ?_
    refine f_br ?_
    refine f_tr ?_
    apply k_ret [] hB h
  refine k_seq ?_
  refine k_reg ?_
  refine l_fieldAddr ?_
  refine l_load ?_
  refine l_cmp ?_
  refine l_assign ?_
  refine k_nil ?_
  refine f_t ?_
  refine k_if h (fun _ h => ?_) (fun _ h => ?_)
  · refine k_seq ?_
    refine k_reg ?_
    refine l_fieldAddr ?_
    refine l_load ?_
    refine l_assign ?_
    refine k_nil ?_
    refine f_t ?_
    refine k_retc ?_
    refine f_br ?_
    refine f_tr ?_
    apply k_ret [] hB h
  refine k_skip ?_
  refine f_b ?_
  refine f_t ?_
  refine k_seq ?_
  refine k_reg ?_
  refine l_assign ?_
  refine k_nil ?_
  refine f_t ?_
  refine k_retc ?_
  apply k_ret [] hB h
theorem apostillelaw16_ValueBack_ok {n : Int} {r : Bool} (h : apostillelaw16_ValueBack n = some r) : XSpec Tryd.prog 5 [I n] [] (B r) [] [] := by
  unfold apostillelaw16_ValueBack at h
  refine X_of_run Tryd.hU Tryd.func5 (fun _ _ _ hB => ?_)
  refine k_seq ?_
  refine k_reg ?_
  refine l_assign ?_
  refine k_nil ?_
  refine f_t ?_
  refine k_seq ?_
  refine k_seq ?_
  refine k_cut (fun q2 => (.normal, ⟨[(0, I n), (16, B q2)], [], []⟩)) h (fun t h => ?_) (fun q2 h => ?_)
  · refine k_reg ?_
    refine l_call h (fun _ => apostillelaw16_awake_ok) (fun v1 _ h => ?_)
    refine l_un ?_
    refine l_move ?_
    refine l_split h (fun _ h => ?_) (fun _ h => ?_)
    · refine l_off ?_
      refine l_off ?_
      refine l_pick_true ?_
      refine l_move ?_
      refine l_off ?_
      refine l_off ?_
      refine l_pick_true ?_
      refine k_nil ?_
      exact k_out [] hB h
    refine l_on ?_
    refine l_move ?_
    refine l_on ?_
    refine l_cmp ?_
    refine l_pick_false ?_
    refine l_move ?_
    refine l_split h (fun _ h => ?_) (fun _ h => ?_)
    · refine l_off ?_
      refine l_off ?_
      refine l_pick_true ?_
      refine k_nil ?_
      exact k_out [] hB h
    refine l_on ?_
    refine l_move ?_
    refine l_on ?_
    refine l_cmp ?_
    refine l_pick_false ?_
    refine k_nil ?_
    exact k_out [] hB h
  refine f_t ?_
  refine k_if h (fun _ h => ?_) (fun _ h => ?_)
  · refine k_seq ?_
    refine k_reg ?_
    refine l_call h (fun _ => apostillelaw16_awake_ok) (fun v3 _ h => ?_)
    refine l_assign ?_
    refine k_nil ?_
    refine f_t ?_
    refine k_retc ?_
    refine f_tr ?_
    apply k_ret [] hB h
  refine k_skip ?_
  refine f_t ?_
  refine k_seq ?_
  refine k_reg ?_
  refine l_move ?_
  refine l_call h (fun _ => value_OfNumber_ok) (fun v4 _ h => ?_)
  refine l_move ?_
  refine l_extract ?_
  refine l_extract ?_
  refine l_alloc ?_
  refine l_store_box ?_
  refine l_assign ?_
  refine k_nil ?_
  refine f_t ?_
  refine k_seq ?_
  refine k_reg ?_
  refine l_load_agg ?_
  refine l_callN h (fun _ => value_AsText_ok) (fun v5 _ h => ?_)
  refine l_call h (fun _ => value_Read_ok) (fun v6 _ h => ?_)
  refine l_move ?_
  refine l_extract ?_
  refine l_extract ?_
  refine l_alloc ?_
  refine l_store_box ?_
  refine l_assign ?_
  refine k_nil ?_
  refine f_t ?_
  refine k_seq ?_
  refine k_reg ?_
  refine l_move ?_
  refine l_cmp ?_
  refine l_move ?_
  refine l_split h (fun _ h => ?_) (fun _ h => ?_)
  · refine l_on ?_
    refine l_move ?_
    refine l_on ?_
    refine l_cmp ?_
    refine l_pick_true ?_
    refine l_move ?_
    refine l_split h (fun _ h => ?_) (fun _ h => ?_)
    · refine l_on ?_
      refine l_load_agg ?_
      refine l_on ?_
      refine l_load_agg ?_
      refine l_on ?_
      refine l_call h (fun _ => value_Same_ok) (fun v7 _ h => ?_)
      refine l_pick_true ?_
      refine l_assign ?_
      refine k_nil ?_
      refine f_t ?_
      refine k_retc ?_
      apply k_ret [] hB h
    refine l_off ?_
    refine l_off ?_
    refine l_off ?_
    refine l_pick_false ?_
    refine l_assign ?_
    refine k_nil ?_
    refine f_t ?_
    refine k_retc ?_
    apply k_ret [] hB h
  refine l_off ?_
  refine l_off ?_
  refine l_pick_false ?_
  refine l_move ?_
  refine l_off ?_
  refine l_off ?_
  refine l_off ?_
  refine l_pick_false ?_
  refine l_assign ?_
  refine k_nil ?_
  refine f_t ?_
  refine k_retc ?_
  apply k_ret [] hB h
theorem value_AsNumber_ok {d : (Option TDoc)} {v_ : TValue} {r : TValue × Int} (h : value_AsNumber d v_ = some r) : XSpec Tryd.prog 21 [oP c_TDoc d, .agg (c_TValue v_)] [] (.tup [.agg (c_TValue r.1), I r.2]) [] [] := by
  unfold value_AsNumber at h
  refine X_of_run Tryd.hU Tryd.func21 (fun _ _ _ hB => ?_)
  refine k_seq ?_
  refine k_reg ?_
  refine l_box ?_
  refine l_alloc ?_
  refine l_assign ?_
  refine k_nil ?_
  refine f_t ?_
  refine k_seq ?_
  refine k_block ?_
  refine k_seq ?_
  refine k_reg ?_
  refine l_fieldAddr ?_
  refine l_load ?_
  refine l_cmp ?_
  refine l_assign ?_
  refine k_nil ?_
  refine f_t ?_
  refine k_if h (fun _ h => ?_) (fun _ h => ?_)
  · refine k_seq ?_
    refine k_reg ?_
    refine l_load_agg ?_
    refine l_store_box ?_
    refine l_assign ?_
    refine k_nil ?_
    refine f_t ?_
    refine k_retc ?_
    refine f_br ?_
    refine f_tr ?_
    apply k_ret [] hB h
  refine k_seq ?_
  refine k_cut (fun q1 => (.normal, ⟨[(0, oP c_TDoc d), (3, .ptr 1003 0), (4, .ptr 1004 0), (11, B q1)], [(1003, .box [I v_.Kind, .vs v_.Set.length (F c_TPoint v_.Set), B v_.Bool_, I v_.N, B v_.NaN, S v_.Text]), (1004, .box [I 0, .pl (.slice none 0 0), B false, I 0, B false, S []])], []⟩)) h (fun t h => ?_) (fun q1 h => ?_)
  · refine k_reg ?_
    refine l_fieldAddr ?_
    refine l_load ?_
    refine l_cmp ?_
    refine l_move ?_
    refine l_split h (fun _ h => ?_) (fun _ h => ?_)
    · refine l_on ?_
      refine l_fieldAddr ?_
      refine l_on ?_
      refine l_load ?_
      refine l_pick_true ?_
      refine l_assign ?_
      refine k_nil ?_
      exact k_out [(1003, 1003), (1004, 1004)] hB h
    refine l_off ?_
    refine l_off ?_
    refine l_pick_false ?_
    refine l_assign ?_
    refine k_nil ?_
    exact k_out [(1003, 1003), (1004, 1004)] hB h
  refine f_t ?_
  refine k_if h (fun _ h => ?_) (fun _ h => ?_)
  · refine k_seq ?_
    refine k_reg ?_
    refine l_call h (fun _ => value_OfNumber_ok) (fun v2 _ h => ?_)
    refine l_extract ?_
    refine l_extract ?_
    refine l_store_box ?_
    refine l_assign ?_
    refine k_nil ?_
    refine f_t ?_
    refine k_retc ?_
    refine f_br ?_
    refine f_tr ?_
    apply k_ret [] hB h
  refine k_seq ?_
  refine k_reg ?_
  refine l_fieldAddr ?_
  refine l_load ?_
  refine l_cmp ?_
  refine l_assign ?_
  refine k_nil ?_
  refine f_t ?_
  refine k_if h (fun _ h => ?_) (fun _ h => ?_)
  · refine k_seq ?_
    refine k_reg ?_
    refine l_call h (fun _ => value_OfNumber_ok) (fun v3 _ h => ?_)
    refine l_extract ?_
    refine l_extract ?_
    refine l_store_box ?_
    refine l_assign ?_
    refine k_nil ?_
    refine f_t ?_
    refine k_retc ?_
    refine f_br ?_
    refine f_tr ?_
    apply k_ret [] hB h
  refine k_seq ?_
  refine k_reg ?_
  refine l_fieldAddr ?_
  refine l_load ?_
  refine l_cmp ?_
  refine l_move ?_
  refine l_split h (fun _ h => ?_) (fun _ h => ?_)
  · refine l_off ?_
    refine l_off ?_
    refine l_off ?_
    refine l_pick_true ?_
    refine l_assign ?_
    refine k_nil ?_
    refine f_t ?_
    refine k_t ?_
    refine k_seq ?_
    refine k_reg ?_
    refine l_move ?_
    refine l_load_agg ?_
    refine l_call h (fun _ => value_AsText_ok) (fun v4 _ h => ?_)
    refine l_call h (fun _ => value_Read_ok) (fun v5 _ h => ?_)
    refine l_extract ?_
    refine l_extract ?_
    refine l_store_box ?_
    refine l_assign ?_
    refine k_nil ?_
    refine f_t ?_
    refine k_retc ?_
    refine f_br ?_
    refine f_tr ?_
    apply k_ret [] hB h
  refine l_on ?_
  refine l_fieldAddr ?_
  refine l_on ?_
  refine l_load ?_
  refine l_on ?_
  refine l_cmp ?_
  refine l_pick_false ?_
  refine l_assign ?_
  refine k_nil ?_
  refine f_t ?_
  refine k_if h (fun _ h => ?_) (fun _ h => ?_)
  · refine k_seq ?_
    refine k_reg ?_
    refine l_move ?_
    refine l_load_agg ?_
    refine l_call h (fun _ => value_AsText_ok) (fun v6 _ h => ?_)
    refine l_call h (fun _ => value_Read_ok) (fun v7 _ h => ?_)
    refine l_extract ?_
    refine l_extract ?_
    refine l_store_box ?_
    refine l_assign ?_
    refine k_nil ?_
    refine f_t ?_
    refine k_retc ?_
    refine f_br ?_
    refine f_tr ?_
    apply k_ret [] hB h
  refine k_skip ?_
  refine f_b ?_
  refine f_t ?_
  refine k_seq ?_
  refine k_reg ?_
  refine l_call h (fun _ => value_None_ok) (fun v8 _ h => ?_)
  refine l_store_box ?_
  refine l_assign ?_
  refine k_nil ?_
  refine f_t ?_
  refine k_retc ?_
  apply k_ret [] hB h
theorem value_AsTruth_ok {v_ : TValue} {r : Bool} (h : value_AsTruth v_ = some r) : XSpec Tryd.prog 22 [.agg (c_TValue v_)] [] (B r) [] [] := by
  unfold value_AsTruth at h
  refine X_of_run Tryd.hU Tryd.func22 (fun _ _ _ hB => ?_)
  refine k_seq ?_
  refine k_reg ?_
  refine l_box ?_
  refine l_assign ?_
  refine k_nil ?_
  refine f_t ?_
  refine k_seq ?_
  refine k_seq ?_
  refine k_reg ?_
  refine l_fieldAddr ?_
  refine l_load ?_
  refine k_nil ?_
  refine f_t ?_
  refine k_block ?_
  refine k_seq ?_
  refine k_reg ?_
  refine l_cmp ?_
  refine l_assign ?_
  refine k_nil ?_
  refine f_t ?_
  refine k_if h (fun _ h => ?_) (fun _ h => ?_)
  · refine k_seq ?_
    refine k_reg ?_
    refine l_fieldAddr ?_
    refine l_load ?_
    refine l_len ?_
    refine l_cmp ?_
    refine l_assign ?_
    refine k_nil ?_
    refine f_t ?_
    refine k_retc ?_
    refine f_br ?_
    refine f_tr ?_
    apply k_ret [] hB h
  refine k_seq ?_
  refine k_reg ?_
  refine l_cmp ?_
  refine l_assign ?_
  refine k_nil ?_
  refine f_t ?_
  refine k_if h (fun _ h => ?_) (fun _ h => ?_)
  · refine k_seq ?_
    refine k_reg ?_
    refine l_fieldAddr ?_
    refine l_load ?_
    refine l_assign ?_
    refine k_nil ?_
    refine f_t ?_
    refine k_retc ?_
    refine f_br ?_
    refine f_tr ?_
    apply k_ret [] hB h
  refine k_seq ?_
  refine k_reg ?_
  refine l_cmp ?_
  refine l_assign ?_
  refine k_nil ?_
  refine f_t ?_
  refine k_if h (fun _ h => ?_) (fun _ h => ?_)
  · refine k_seq ?_
    refine k_reg ?_
    refine l_fieldAddr ?_
    refine l_load ?_
    refine l_cmp ?_
    refine l_move ?_
    refine l_split h (fun _ h => ?_) (fun _ h => ?_)
    · refine l_on ?_
      refine l_fieldAddr ?_
      refine l_on ?_
      refine l_load ?_
      refine l_on ?_
      refine l_un ?_
      refine l_pick_true ?_
      refine l_assign ?_
      refine k_nil ?_
      refine f_t ?_
      refine k_retc ?_
      refine f_br ?_
      refine f_tr ?_
      apply k_ret [] hB h
    refine l_off ?_
    refine l_off ?_
    refine l_off ?_
    refine l_pick_false ?_
    refine l_assign ?_
    refine k_nil ?_
    refine f_t ?_
    refine k_retc ?_
    refine f_br ?_
    refine f_tr ?_
    apply k_ret [] hB h
  refine k_seq ?_
  refine k_reg ?_
  refine l_cmp ?_
  refine l_assign ?_
  refine k_nil ?_
  refine f_t ?_
  refine k_if h (fun _ h => ?_) (fun _ h => ?_)
  · refine k_seq ?_
    refine k_reg ?_
    refine l_fieldAddr ?_
    refine l_load ?_
    refine l_sne ?_
    refine l_assign ?_
    refine k_nil ?_
    refine f_t ?_
    refine k_retc ?_
    refine f_br ?_
    refine f_tr ?_
    apply k_ret [] hB h
  refine k_skip ?_
  refine f_b ?_
  refine f_t ?_
  refine k_seq ?_
  refine k_reg ?_
  refine l_assign ?_
  refine k_nil ?_
  refine f_t ?_
  refine k_retc ?_
  apply k_ret [] hB h
theorem apostillelaw16_ValueTexts_ok {s : Str} {b : Bool} {r : Bool} (h : apostillelaw16_ValueTexts s b = some r) : XSpec Tryd.prog 6 [S s, B b] [] (B r) [] [] := by
  unfold apostillelaw16_ValueTexts at h
  refine X_of_run Tryd.hU Tryd.func6 (fun _ _ _ hB => ?_)
  refine k_seq ?_
  refine k_reg ?_
  refine l_assign ?_
  refine k_nil ?_
  refine f_t ?_
  refine k_seq ?_
  refine k_seq ?_
  refine k_cut (fun q2 => (.normal, ⟨[(0, S s), (1, B b), (18, B q2)], [], []⟩)) h (fun t h => ?_) (fun q2 h => ?_)
  · refine k_reg ?_
    refine l_call h (fun _ => apostillelaw16_awake_ok) (fun v1 _ h => ?_)
    refine l_un ?_
    refine l_move ?_
    refine l_split h (fun _ h => ?_) (fun _ h => ?_)
    · refine l_off ?_
      refine l_off ?_
      refine l_off ?_
      refine l_pick_true ?_
      refine k_nil ?_
      exact k_out [] hB h
    refine l_on ?_
    refine l_move ?_
    refine l_on ?_
    refine l_lens ?_
    refine l_on ?_
    refine l_cmp ?_
    refine l_pick_false ?_
    refine k_nil ?_
    exact k_out [] hB h
  refine f_t ?_
  refine k_if h (fun _ h => ?_) (fun _ h => ?_)
  · refine k_seq ?_
    refine k_reg ?_
    refine l_call h (fun _ => apostillelaw16_awake_ok) (fun v3 _ h => ?_)
    refine l_assign ?_
    refine k_nil ?_
    refine f_t ?_
    refine k_retc ?_
    refine f_tr ?_
    apply k_ret [] hB h
  refine k_skip ?_
  refine f_t ?_
  refine k_seq ?_
  refine k_reg ?_
  refine l_move ?_
  refine l_call h (fun _ => value_OfText_ok) (fun v4 _ h => ?_)
  refine l_alloc ?_
  refine l_store_box ?_
  refine k_nil ?_
  refine f_t ?_
  refine k_seq ?_
  refine k_reg ?_
  refine l_load_agg ?_
  refine l_callN h (fun _ => value_AsNumber_ok) (fun v5 _ h => ?_)
  refine l_move ?_
  refine l_extract ?_
  refine l_extract ?_
  refine l_alloc ?_
  refine l_store_box ?_
  refine l_assign ?_
  refine k_nil ?_
  refine f_t ?_
  refine k_seq ?_
  refine k_reg ?_
  refine l_move ?_
  refine l_cat h (fun v6 _ h => ?_)
  refine l_cat h (fun v7 _ h => ?_)
  refine l_call h (fun _ => value_Read_ok) (fun v8 _ h => ?_)
  refine l_move ?_
  refine l_extract ?_
  refine l_extract ?_
  refine l_alloc ?_
  refine l_store_box ?_
  refine l_assign ?_
  refine k_nil ?_
  refine f_t ?_
  refine k_seq ?_
  refine k_reg ?_
  refine l_move ?_
  refine l_call h (fun _ => value_OfTruth_ok) (fun v9 _ h => ?_)
  refine l_callN h (fun _ => value_AsText_ok) (fun v10 _ h => ?_)
  refine l_to [(1005, 1005), (1006, 1006), (1008, 1008)] ⟨[(0, S s), (5, .ptr 1005 0), (6, .ptr 1006 0), (7, I v5.2), (8, .ptr 1008 0), (9, I v8.2), (37, S v10)], [(1005, .box [I v4.Kind, .vs v4.Set.length (F c_TPoint v4.Set), B v4.Bool_, I v4.N, B v4.NaN, S v4.Text]), (1006, .box [I v5.1.Kind, .vs v5.1.Set.length (F c_TPoint v5.1.Set), B v5.1.Bool_, I v5.1.N, B v5.1.NaN, S v5.1.Text]), (1008, .box [I v8.1.Kind, .vs v8.1.Set.length (F c_TPoint v8.1.Set), B v8.1.Bool_, I v8.1.N, B v8.1.NaN, S v8.1.Text])], []⟩ hB ?_
  refine l_call h (fun _ => value_Read_ok) (fun v11 _ h => ?_)
  refine l_move ?_
  refine l_extract ?_
  refine l_extract ?_
  refine l_alloc ?_
  refine l_store_box ?_
  refine l_assign ?_
  refine k_nil ?_
  refine f_t ?_
  refine k_seq ?_
  refine k_mix [] (.q 0 (.q 2 (.e 1 (.q 3 (.q 4 (.q 5 (.q 6 (.q 7 (.q 8 (.q 9 (.q 10 (.q 11 (.e 12 (.q 13 (.q 14 (.q 15 (.q 16 (.q 17 (.q 18 (.q 19 (.e 20 (.e 21 (.q 22 (.q 23 (.q 24 (.q 26 (.q 27 (.e 25 (.q 28 (.q 29 (.q 30 (.done)))))))))))))))))))))))))))))))) hm ?_
  refine gq ?_
  refine n_load_agg ?_
  refine gq ?_
  refine n_move ?_
  refine ge ?_
  refine n_callN h (fun _ => value_AsText_ok) (fun v12 _ h => ?_)
  refine gq ?_
  refine n_seq ?_
  refine gq ?_
  refine n_move ?_
  refine gq ?_
  refine n_split h (fun _ h => ?_) (fun _ h => ?_)
  · refine n_on ?_
    refine n_move ?_
    refine gq ?_
    refine n_on ?_
    refine n_move ?_
    refine gq ?_
    refine n_on ?_
    refine n_cmp ?_
    refine gq ?_
    refine n_pick_true ?_
    refine gq ?_
    refine n_move ?_
    refine gq ?_
    refine n_split h (fun _ h => ?_) (fun _ h => ?_)
    · refine n_on ?_
      refine n_load_agg ?_
      refine gq ?_
      refine n_on ?_
      refine n_load_agg ?_
      refine ge ?_
      refine n_on ?_
      refine n_call h (fun _ => value_Same_ok) (fun v13 _ h => ?_)
      refine gq ?_
      refine n_pick_true ?_
      refine gq ?_
      refine n_move ?_
      refine gq ?_
      refine n_split h (fun _ h => ?_) (fun _ h => ?_)
      · refine n_on ?_
        refine n_move ?_
        refine gq ?_
        refine n_on ?_
        refine n_cmp ?_
        refine gq ?_
        refine n_pick_true ?_
        refine gq ?_
        refine n_move ?_
        refine gq ?_
        refine n_split h (fun _ h => ?_) (fun _ h => ?_)
        · refine n_on ?_
          refine n_load_agg ?_
          refine ge ?_
          refine n_on ?_
          refine n_call h (fun _ => value_None_ok) (fun v14 _ h => ?_)
          refine ge ?_
          refine n_on ?_
          refine n_call h (fun _ => value_Same_ok) (fun v15 _ h => ?_)
          refine gq ?_
          refine n_pick_true ?_
          refine gq ?_
          refine n_move ?_
          refine gq ?_
          refine n_split h (fun _ h => ?_) (fun _ h => ?_)
          · refine n_on ?_
            refine n_load_agg ?_
            refine gq ?_
            refine n_on ?_
            refine n_move ?_
            refine gq ?_
            refine n_on ?_
            refine n_sne ?_
            refine ge ?_
            refine n_on ?_
            refine n_call h (fun _ => value_AsTruth_ok) (fun v16 _ h => ?_)
            refine gq ?_
            refine n_on ?_
            refine n_bool ?_
            refine gq ?_
            refine n_pick_true ?_
            refine gq ?_
            refine n_assign ?_
            refine m_nil ?_
            refine f_t ?_
            refine k_retc ?_
            apply k_ret [] hB h
          refine n_off ?_
          refine gq ?_
          refine n_off ?_
          refine gq ?_
          refine n_off ?_
          refine ge ?_
          refine n_off ?_
          refine gq ?_
          refine n_off ?_
          refine gq ?_
          refine n_pick_false ?_
          refine gq ?_
          refine n_assign ?_
          refine m_nil ?_
          refine f_t ?_
          refine k_retc ?_
          apply k_ret [] hB h
        refine n_off ?_
        refine ge ?_
        refine n_off ?_
        refine ge ?_
        refine n_off ?_
        refine gq ?_
        refine n_pick_false ?_
        refine gq ?_
        refine n_move ?_
        refine gq ?_
        refine n_off ?_
        refine gq ?_
        refine n_off ?_
        refine gq ?_
        refine n_off ?_
        refine ge ?_
        refine n_off ?_
        refine gq ?_
        refine n_off ?_
        refine gq ?_
        refine n_pick_false ?_
        refine gq ?_
        refine n_assign ?_
        refine m_nil ?_
        refine f_t ?_
        refine k_retc ?_
        apply k_ret [] hB h
      refine n_off ?_
      refine gq ?_
      refine n_off ?_
      refine gq ?_
      refine n_pick_false ?_
      refine gq ?_
      refine n_move ?_
      refine gq ?_
      refine n_off ?_
      refine ge ?_
      refine n_off ?_
      refine ge ?_
      refine n_off ?_
      refine gq ?_
      refine n_pick_false ?_
      refine gq ?_
      refine n_move ?_
      refine gq ?_
      refine n_off ?_
      refine gq ?_
      refine n_off ?_
      refine gq ?_
      refine n_off ?_
      refine ge ?_
      refine n_off ?_
      refine gq ?_
      refine n_off ?_
      refine gq ?_
      refine n_pick_false ?_
      refine gq ?_
      refine n_assign ?_
      refine m_nil ?_
      refine f_t ?_
      refine k_retc ?_
      apply k_ret [] hB h
    refine n_off ?_
    refine gq ?_
    refine n_off ?_
    refine ge ?_
    refine n_off ?_
    refine gq ?_
    refine n_pick_false ?_
    refine gq ?_
    refine n_move ?_
    refine gq ?_
    refine n_off ?_
    refine gq ?_
    refine n_off ?_
    refine gq ?_
    refine n_pick_false ?_
    refine gq ?_
    refine n_move ?_
    refine gq ?_
    refine n_off ?_
    refine ge ?_
    refine n_off ?_
    refine ge ?_
    refine n_off ?_
    refine gq ?_
    refine n_pick_false ?_
    refine gq ?_
    refine n_move ?_
    refine gq ?_
    refine n_off ?_
    refine gq ?_
    refine n_off ?_
    refine gq ?_
    refine n_off ?_
    refine ge ?_
    refine n_off ?_
    refine gq ?_
    refine n_off ?_
    refine gq ?_
    refine n_pick_false ?_
    refine gq ?_
    refine n_assign ?_
    refine m_nil ?_
    refine f_t ?_
    refine k_retc ?_
    apply k_ret [] hB h
  refine n_off ?_
  refine gq ?_
  refine n_off ?_
  refine gq ?_
  refine n_off ?_
  refine gq ?_
  refine n_pick_false ?_
  refine gq ?_
  refine n_move ?_
  refine gq ?_
  refine n_off ?_
  refine gq ?_
  refine n_off ?_
  refine ge ?_
  refine n_off ?_
  refine gq ?_
  refine n_pick_false ?_
  refine gq ?_
  refine n_move ?_
  refine gq ?_
  refine n_off ?_
  refine gq ?_
  refine n_off ?_
  refine gq ?_
  refine n_pick_false ?_
  refine gq ?_
  refine n_move ?_
  refine gq ?_
  refine n_off ?_
  refine ge ?_
  refine n_off ?_
  refine ge ?_
  refine n_off ?_
  refine gq ?_
  refine n_pick_false ?_
  refine gq ?_
  refine n_move ?_
  refine gq ?_
  refine n_off ?_
  refine gq ?_
  refine n_off ?_
  refine gq ?_
  refine n_off ?_
  refine ge ?_
  refine n_off ?_
  refine gq ?_
  refine n_off ?_
  refine gq ?_
  refine n_pick_false ?_
  refine gq ?_
  refine n_assign ?_
  refine m_nil ?_
  refine f_t ?_
  refine k_retc ?_
  apply k_ret [] hB h
end Go.Proofs.YtebcdmfekidfoaaDoor
