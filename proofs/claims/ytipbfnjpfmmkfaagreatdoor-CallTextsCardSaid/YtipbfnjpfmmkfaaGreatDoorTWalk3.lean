/-
  WALKS, printed by aw.py: that the program's functions compute the plain ones. Conditions: none.
-/
import Derived.Test.YtipbfnjpfmmkfaaGreatDoorTWalk2
set_option linter.unusedVariables false
set_option linter.unusedSimpArgs false
set_option maxRecDepth 20000
set_option maxHeartbeats 4000000
namespace Go.Proofs.YtipbfnjpfmmkfaaGreatDoor
open Go Go.Abs W G
theorem ident_Index_add_s21_ok {u1 : Int} {u2 : (Option TDoc)} {u3 : (List (Str × Int))} {r : Bool} (h : ident_Index_add_s21 u1 u2 u3 = some r) : XSpec Tryz.prog 56 [.ptr 21000101 0, I u1] [(21000101, .box 99 [oP c_TDoc u2, .mp 21000102]), (21000102, .map (MP kS (fun v => I v) u3))] (B r) [(21000101, .box 99 [oP c_TDoc u2, .mp 21000102]), (21000102, .map (MP kS (fun v => I v) u3))] [] := by
  unfold ident_Index_add_s21 at h
  refine X_of_run Tryz.hU Tryz.func56 (fun _ _ _ hB => ?_)
  refine k_seq ?_
  refine k_reg ?_
  refine l_assign ?_
  refine k_nil ?_
  refine f_t ?_
  refine k_seq ?_
  refine k_seq ?_
  refine k_reg ?_
  refine l_move ?_
  refine l_nilCheck ?_
  refine l_fieldAddr ?_
  refine l_load ?_
  refine l_move ?_
  refine l_call h (fun _ => doc_Doc_Node_ok) (fun v1 _ h => ?_)
  refine l_field ?_
  refine l_len ?_
  refine l_move ?_
  refine k_nil ?_
  refine f_t ?_
  refine k_block ?_
  refine k_loop (fun y2 => ⟨[(0, .ptr 21000101 0), (1, I u1), (15, .vs v1.Attrs.length (F c_TAttr v1.Attrs)), (16, I (v1.Attrs.length : Int)), (17, I y2)], [(21000101, .box 99 [oP c_TDoc u2, .mp 21000102]), (21000102, .map (MP kS (fun v => I v) u3))], []⟩) (Sum.elim (fun q5 => (.ret, ⟨[(4, B false)], [(21000101, .box 99 [oP c_TDoc u2, .mp 21000102]), (21000102, .map (MP kS (fun v => I v) u3))], []⟩)) (fun q6 => (.exit 0, ⟨[], [(21000101, .box 99 [oP c_TDoc u2, .mp 21000102]), (21000102, .map (MP kS (fun v => I v) u3))], []⟩))) [(21000101, 21000101), (21000102, 21000102)] hB h (fun y2 t h => ?_) (fun q h => ?_)
  · unfold ident_Index_add_s21_b1 at h
    refine k_seq ?_
    refine k_reg ?_
    refine l_cmp ?_
    refine k_nil ?_
    refine f_t ?_
    refine k_seq ?_
    refine k_if h (fun _ h => ?_) (fun _ h => ?_)
    · refine k_skip ?_
      refine f_t ?_
      refine k_seq ?_
      refine k_block ?_
      refine k_seq ?_
      refine k_reg ?_
      refine l_at h (fun v3 _ h => ?_)
      refine l_load_agg ?_
      refine l_alloc ?_
      refine l_store_box ?_
      refine k_nil ?_
      refine f_t ?_
      refine k_seq ?_
      refine k_seq ?_
      refine k_reg ?_
      refine l_load_agg ?_
      refine l_call h (fun _ => ident_names_ok) (fun v4 _ h => ?_)
      refine l_un ?_
      refine k_nil ?_
      refine f_t ?_
      refine k_if h (fun _ h => ?_) (fun _ h => ?_)
      · refine k_exit ?_
        refine f_te ?_
        refine f_be ?_
        refine f_t ?_
        refine k_reg ?_
        refine l_addw ?_
        refine l_move ?_
        refine k_nil ?_
        exact k_next [(21000101, 21000101), (21000102, 21000102)] hB h
      refine k_skip ?_
      refine f_t ?_
      refine k_seq ?_
      refine k_seq ?_
      refine k_mix [] (.q 0 (.q 1 (.q 2 (.q 3 (.q 4 (.q 5 (.q 6 (.q 7 (.q 8 (.q 9 (.q 10 (.q 11 (.done))))))))))))) hm ?_
      refine gq ?_
      refine n_move ?_
      refine gq ?_
      refine n_nilCheck ?_
      refine gq ?_
      refine n_fieldAddr ?_
      refine gq ?_
      refine n_load ?_
      refine gq ?_
      refine n_fieldAddr ?_
      refine gq ?_
      refine n_load ?_
      refine gq ?_
      refine n_mget keyS (ev := (fun v => I v)) (m := u3) (k := v3.Value) 0 ?_
      refine gq ?_
      refine n_move ?_
      refine gq ?_
      refine n_extract ?_
      refine gq ?_
      refine n_extract ?_
      refine gq ?_
      refine n_assign ?_
      refine gq ?_
      refine n_assign ?_
      refine m_nil ?_
      refine f_t ?_
      refine k_seq ?_
      refine k_reg ?_
      refine l_move ?_
      refine k_nil ?_
      refine f_t ?_
      refine k_if h (fun _ h => ?_) (fun _ h => ?_)
      · refine k_seq ?_
        refine k_reg ?_
        refine l_assign ?_
        refine k_nil ?_
        refine f_t ?_
        refine k_retc ?_
        refine f_tr ?_
        refine f_br ?_
        refine f_tr ?_
        exact k_brk [(21000101, 21000101), (21000102, 21000102)] hB h
      refine k_skip ?_
      refine f_t ?_
      refine k_mix [] (.q 0 (.q 1 (.q 2 (.q 3 (.q 4 (.q 5 (.q 6 (.e 7 (.done))))))))) hm ?_
      refine gq ?_
      refine n_move ?_
      refine gq ?_
      refine n_nilCheck ?_
      refine gq ?_
      refine n_fieldAddr ?_
      refine gq ?_
      refine n_load ?_
      refine gq ?_
      refine n_fieldAddr ?_
      refine gq ?_
      refine n_load ?_
      refine gq ?_
      refine n_move ?_
      refine ge ?_
      cases h
    refine k_exit ?_
    refine f_te ?_
    exact k_brk [(21000101, 21000101), (21000102, 21000102)] hB h
  rcases q with q5 | q6
  · dsimp only [Sum.elim] at h ⊢
    refine f_br ?_
    refine f_tr ?_
    apply k_ret [(21000101, 21000101), (21000102, 21000102)] hB h
  dsimp only [Sum.elim] at h ⊢
  refine f_be ?_
  refine f_t ?_
  refine k_seq ?_
  refine k_reg ?_
  refine l_assign ?_
  refine k_nil ?_
  refine f_t ?_
  refine k_retc ?_
  apply k_ret [(21000101, 21000101), (21000102, 21000102)] hB h
theorem ident_Of_ok {d : (Option TDoc)} {r : (Option TIndex) × Int} (h : ident_Of d = some r) : XSpec Tryz.prog 26 [oP c_TDoc d] [] (.tup [oP c_TIndex r.1, I r.2]) [] [] := by
  unfold ident_Of at h
  refine X_of_run Tryz.hU Tryz.func26 (fun _ _ _ hB => ?_)
  refine k_seq ?_
  refine k_reg ?_
  refine l_assign ?_
  refine l_assign ?_
  refine k_nil ?_
  refine f_t ?_
  refine k_seq ?_
  refine k_seq ?_
  refine k_reg ?_
  refine l_move ?_
  refine l_pnil ?_
  refine k_nil ?_
  refine f_t ?_
  refine k_if h (fun _ h => ?_) (fun _ h => ?_)
  · refine k_seq ?_
    refine k_reg ?_
    refine l_assign ?_
    refine l_assign ?_
    refine k_nil ?_
    refine f_t ?_
    refine k_retc ?_
    refine f_tr ?_
    apply k_retN [] hB h
  refine k_skip ?_
  refine f_t ?_
  refine k_seq ?_
  refine k_reg ?_
  refine l_move ?_
  refine l_mmake ?_
  refine l_build ?_
  refine l_box ?_
  refine l_assign ?_
  refine k_nil ?_
  refine f_t ?_
  refine k_seq ?_
  refine k_seq ?_
  refine k_reg ?_
  refine l_move ?_
  refine l_nilCheck ?_
  refine l_fieldAddr ?_
  refine l_load ?_
  refine l_call h (fun _ => doc_Doc_Len_ok) (fun v1 _ h => ?_)
  refine l_move ?_
  refine k_nil ?_
  refine f_t ?_
  refine k_block ?_
  refine k_loop (fun y2 => ⟨[(4, .ptr 1011 0), (16, I v1), (17, I y2)], [(1011, .box 99 [oP c_TDoc d, .mp 1009]), (1009, .map (MP kS (fun v => I v) []))], []⟩) (Sum.elim (fun q4 => (.ret, ⟨[(2, .pl (.pointer none)), (3, I 9)], [], []⟩)) (fun q5 => (.exit 0, ⟨[(4, .ptr 1011 0)], [(1011, .box 99 [oP c_TDoc d, .mp 1009]), (1009, .map (MP kS (fun v => I v) []))], []⟩))) [(1011, 1011), (1009, 1009)] hB h (fun y2 t h => ?_) (fun q h => ?_)
  · unfold ident_Of_b1 at h
    refine k_seq ?_
    refine k_reg ?_
    refine l_cmp ?_
    refine k_nil ?_
    refine f_t ?_
    refine k_seq ?_
    refine k_if h (fun _ h => ?_) (fun _ h => ?_)
    · refine k_skip ?_
      refine f_t ?_
      refine k_seq ?_
      refine k_block ?_
      refine k_seq ?_
      refine k_reg ?_
      refine l_move ?_
      refine l_assign ?_
      refine k_nil ?_
      refine f_t ?_
      refine k_seq ?_
      refine k_reg ?_
      refine l_move ?_
      refine l_move ?_
      refine l_callX [(21000101, 1011), (21000102, 1009)] [1011, 1009] h (fun _ => ident_Index_add_s21_ok) (fun v3 _ h => ?_)
      refine l_un ?_
      refine k_nil ?_
      refine f_t ?_
      refine k_if h (fun _ h => ?_) (fun _ h => ?_)
      · refine k_seq ?_
        refine k_reg ?_
        refine l_assign ?_
        refine l_assign ?_
        refine k_nil ?_
        refine f_t ?_
        refine k_retc ?_
        refine f_br ?_
        refine f_tr ?_
        exact k_brk [] hB h
      refine k_skip ?_
      refine f_b ?_
      refine f_t ?_
      refine k_reg ?_
      refine l_addw ?_
      refine l_move ?_
      refine k_nil ?_
      exact k_next [(1011, 1011), (1009, 1009)] hB h
    refine k_exit ?_
    refine f_te ?_
    exact k_brk [(1011, 1011), (1009, 1009)] hB h
  rcases q with q4 | q5
  · dsimp only [Sum.elim] at h ⊢
    refine f_br ?_
    refine f_tr ?_
    apply k_retN [] hB h
  dsimp only [Sum.elim] at h ⊢
  refine f_be ?_
  refine f_t ?_
  refine k_seq ?_
  refine k_reg ?_
  refine l_move ?_
  refine l_assign ?_
  refine l_assign ?_
  refine k_nil ?_
  refine f_t ?_
  refine k_retc ?_
  refine f_frzm (m := []) 1009 ?_
  refine f_frz 1011 ?_
  apply k_ret [] hB h
theorem value_OfNumber_ok {n : Int} {r : TValue × Int} (h : value_OfNumber n = some r) : XSpec Tryz.prog 30 [I n] [] (.tup [.agg (c_TValue r.1), I r.2]) [] [] := by
  unfold value_OfNumber at h
  refine X_of_run Tryz.hU Tryz.func30 (fun _ _ _ hB => ?_)
  refine k_seq ?_
  refine k_reg ?_
  refine l_alloc ?_
  refine l_assign ?_
  refine k_nil ?_
  refine f_t ?_
  refine k_seq ?_
  refine k_seq ?_
  refine k_reg ?_
  refine l_move ?_
  refine l_cmp ?_
  refine l_move ?_
  refine l_split h (fun _ h => ?_) (fun _ h => ?_)
  · refine l_off ?_
    refine l_off ?_
    refine l_pick_true ?_
    refine k_nil ?_
    refine f_t ?_
    refine k_t ?_
    refine k_seq ?_
    refine k_reg ?_
    refine l_build ?_
    refine l_store_box ?_
    refine l_assign ?_
    refine k_nil ?_
    refine f_t ?_
    refine k_retc ?_
    refine f_tr ?_
    apply k_retN [] hB h
  refine l_on ?_
  refine l_move ?_
  refine l_on ?_
  refine l_cmp ?_
  refine l_pick_false ?_
  refine k_nil ?_
  refine f_t ?_
  refine k_if h (fun _ h => ?_) (fun _ h => ?_)
  · refine k_seq ?_
    refine k_reg ?_
    refine l_build ?_
    refine l_store_box ?_
    refine l_assign ?_
    refine k_nil ?_
    refine f_t ?_
    refine k_retc ?_
    refine f_tr ?_
    apply k_retN [] hB h
  refine k_skip ?_
  refine f_t ?_
  refine k_seq ?_
  refine k_reg ?_
  refine l_move ?_
  refine l_build ?_
  refine l_store_box ?_
  refine l_assign ?_
  refine k_nil ?_
  refine f_t ?_
  refine k_retc ?_
  apply k_retN [] hB h
theorem value_OfText_ok {s : Str} {r : TValue} (h : value_OfText s = some r) : XSpec Tryz.prog 28 [S s] [] (.agg (c_TValue r)) [] [] := by
  unfold value_OfText at h
  refine X_of_run Tryz.hU Tryz.func28 (fun _ _ _ hB => ?_)
  refine k_seq ?_
  refine k_reg ?_
  refine l_alloc ?_
  refine k_nil ?_
  refine f_t ?_
  refine k_seq ?_
  refine k_reg ?_
  refine l_move ?_
  refine l_build ?_
  refine l_store_box ?_
  refine k_nil ?_
  refine f_t ?_
  refine k_retc ?_
  apply k_retN [] hB h
theorem call_shapes_ok {r : (List (Str × TShape))} (h : call_shapes = some r) : XSpec Tryz.prog 57 [] [] (.mp 1) [(1, .map (MP kS (fun v => .agg (c_TShape v)) r))] [] := by
  unfold call_shapes at h
  refine X_of_run Tryz.hU Tryz.func57 (fun _ _ _ hB => ?_)
  refine k_seq ?_
  refine k_reg ?_
  refine l_assign ?_
  refine k_nil ?_
  refine f_t ?_
  refine k_seq ?_
  refine k_reg ?_
  refine l_mmake ?_
  refine l_build ?_
  refine l_mput keyS (ev := (fun v => .agg (c_TShape v))) (m := []) (k := [108, 97, 115, 116]) (TShape.mk 0 0 false) ?_
  refine l_build ?_
  refine l_mput keyS (ev := (fun v => .agg (c_TShape v))) (m := (mput [] [108, 97, 115, 116] (TShape.mk 0 0 false))) (k := [112, 111, 115, 105, 116, 105, 111, 110]) (TShape.mk 0 0 false) ?_
  refine l_build ?_
  refine l_mput keyS (ev := (fun v => .agg (c_TShape v))) (m := (mput (mput [] [108, 97, 115, 116] (TShape.mk 0 0 false)) [112, 111, 115, 105, 116, 105, 111, 110] (TShape.mk 0 0 false))) (k := [99, 111, 117, 110, 116]) (TShape.mk 1 1 true) ?_
  refine l_build ?_
  refine l_mput keyS (ev := (fun v => .agg (c_TShape v))) (m := (mput (mput (mput [] [108, 97, 115, 116] (TShape.mk 0 0 false)) [112, 111, 115, 105, 116, 105, 111, 110] (TShape.mk 0 0 false)) [99, 111, 117, 110, 116] (TShape.mk 1 1 true))) (k := [105, 100]) (TShape.mk 1 1 false) ?_
  refine l_build ?_
  refine l_mput keyS (ev := (fun v => .agg (c_TShape v))) (m := (mput (mput (mput (mput [] [108, 97, 115, 116] (TShape.mk 0 0 false)) [112, 111, 115, 105, 116, 105, 111, 110] (TShape.mk 0 0 false)) [99, 111, 117, 110, 116] (TShape.mk 1 1 true)) [105, 100] (TShape.mk 1 1 false))) (k := [108, 111, 99, 97, 108, 45, 110, 97, 109, 101]) (TShape.mk 0 1 true) ?_
  refine l_build ?_
  refine l_mput keyS (ev := (fun v => .agg (c_TShape v))) (m := (mput (mput (mput (mput (mput [] [108, 97, 115, 116] (TShape.mk 0 0 false)) [112, 111, 115, 105, 116, 105, 111, 110] (TShape.mk 0 0 false)) [99, 111, 117, 110, 116] (TShape.mk 1 1 true)) [105, 100] (TShape.mk 1 1 false)) [108, 111, 99, 97, 108, 45, 110, 97, 109, 101] (TShape.mk 0 1 true))) (k := [110, 97, 109, 101, 115, 112, 97, 99, 101, 45, 117, 114, 105]) (TShape.mk 0 1 true) ?_
  refine l_build ?_
  refine l_mput keyS (ev := (fun v => .agg (c_TShape v))) (m := (mput (mput (mput (mput (mput (mput [] [108, 97, 115, 116] (TShape.mk 0 0 false)) [112, 111, 115, 105, 116, 105, 111, 110] (TShape.mk 0 0 false)) [99, 111, 117, 110, 116] (TShape.mk 1 1 true)) [105, 100] (TShape.mk 1 1 false)) [108, 111, 99, 97, 108, 45, 110, 97, 109, 101] (TShape.mk 0 1 true)) [110, 97, 109, 101, 115, 112, 97, 99, 101, 45, 117, 114, 105] (TShape.mk 0 1 true))) (k := [110, 97, 109, 101]) (TShape.mk 0 1 true) ?_
  refine l_build ?_
  refine l_mput keyS (ev := (fun v => .agg (c_TShape v))) (m := (mput (mput (mput (mput (mput (mput (mput [] [108, 97, 115, 116] (TShape.mk 0 0 false)) [112, 111, 115, 105, 116, 105, 111, 110] (TShape.mk 0 0 false)) [99, 111, 117, 110, 116] (TShape.mk 1 1 true)) [105, 100] (TShape.mk 1 1 false)) [108, 111, 99, 97, 108, 45, 110, 97, 109, 101] (TShape.mk 0 1 true)) [110, 97, 109, 101, 115, 112, 97, 99, 101, 45, 117, 114, 105] (TShape.mk 0 1 true)) [110, 97, 109, 101] (TShape.mk 0 1 true))) (k := [115, 116, 114, 105, 110, 103]) (TShape.mk 0 1 false) ?_
  refine l_build ?_
  refine l_mput keyS (ev := (fun v => .agg (c_TShape v))) (m := (mput (mput (mput (mput (mput (mput (mput (mput [] [108, 97, 115, 116] (TShape.mk 0 0 false)) [112, 111, 115, 105, 116, 105, 111, 110] (TShape.mk 0 0 false)) [99, 111, 117, 110, 116] (TShape.mk 1 1 true)) [105, 100] (TShape.mk 1 1 false)) [108, 111, 99, 97, 108, 45, 110, 97, 109, 101] (TShape.mk 0 1 true)) [110, 97, 109, 101, 115, 112, 97, 99, 101, 45, 117, 114, 105] (TShape.mk 0 1 true)) [110, 97, 109, 101] (TShape.mk 0 1 true)) [115, 116, 114, 105, 110, 103] (TShape.mk 0 1 false))) (k := [99, 111, 110, 99, 97, 116]) (TShape.mk 2 1048576 false) ?_
  refine l_build ?_
  refine l_mput keyS (ev := (fun v => .agg (c_TShape v))) (m := (mput (mput (mput (mput (mput (mput (mput (mput (mput [] [108, 97, 115, 116] (TShape.mk 0 0 false)) [112, 111, 115, 105, 116, 105, 111, 110] (TShape.mk 0 0 false)) [99, 111, 117, 110, 116] (TShape.mk 1 1 true)) [105, 100] (TShape.mk 1 1 false)) [108, 111, 99, 97, 108, 45, 110, 97, 109, 101] (TShape.mk 0 1 true)) [110, 97, 109, 101, 115, 112, 97, 99, 101, 45, 117, 114, 105] (TShape.mk 0 1 true)) [110, 97, 109, 101] (TShape.mk 0 1 true)) [115, 116, 114, 105, 110, 103] (TShape.mk 0 1 false)) [99, 111, 110, 99, 97, 116] (TShape.mk 2 1048576 false))) (k := [115, 116, 97, 114, 116, 115, 45, 119, 105, 116, 104]) (TShape.mk 2 2 false) ?_
  refine l_build ?_
  refine l_mput keyS (ev := (fun v => .agg (c_TShape v))) (m := (mput (mput (mput (mput (mput (mput (mput (mput (mput (mput [] [108, 97, 115, 116] (TShape.mk 0 0 false)) [112, 111, 115, 105, 116, 105, 111, 110] (TShape.mk 0 0 false)) [99, 111, 117, 110, 116] (TShape.mk 1 1 true)) [105, 100] (TShape.mk 1 1 false)) [108, 111, 99, 97, 108, 45, 110, 97, 109, 101] (TShape.mk 0 1 true)) [110, 97, 109, 101, 115, 112, 97, 99, 101, 45, 117, 114, 105] (TShape.mk 0 1 true)) [110, 97, 109, 101] (TShape.mk 0 1 true)) [115, 116, 114, 105, 110, 103] (TShape.mk 0 1 false)) [99, 111, 110, 99, 97, 116] (TShape.mk 2 1048576 false)) [115, 116, 97, 114, 116, 115, 45, 119, 105, 116, 104] (TShape.mk 2 2 false))) (k := [99, 111, 110, 116, 97, 105, 110, 115]) (TShape.mk 2 2 false) ?_
  refine l_build ?_
  refine l_mput keyS (ev := (fun v => .agg (c_TShape v))) (m := (mput (mput (mput (mput (mput (mput (mput (mput (mput (mput (mput [] [108, 97, 115, 116] (TShape.mk 0 0 false)) [112, 111, 115, 105, 116, 105, 111, 110] (TShape.mk 0 0 false)) [99, 111, 117, 110, 116] (TShape.mk 1 1 true)) [105, 100] (TShape.mk 1 1 false)) [108, 111, 99, 97, 108, 45, 110, 97, 109, 101] (TShape.mk 0 1 true)) [110, 97, 109, 101, 115, 112, 97, 99, 101, 45, 117, 114, 105] (TShape.mk 0 1 true)) [110, 97, 109, 101] (TShape.mk 0 1 true)) [115, 116, 114, 105, 110, 103] (TShape.mk 0 1 false)) [99, 111, 110, 99, 97, 116] (TShape.mk 2 1048576 false)) [115, 116, 97, 114, 116, 115, 45, 119, 105, 116, 104] (TShape.mk 2 2 false)) [99, 111, 110, 116, 97, 105, 110, 115] (TShape.mk 2 2 false))) (k := [115, 117, 98, 115, 116, 114, 105, 110, 103, 45, 98, 101, 102, 111, 114, 101]) (TShape.mk 2 2 false) ?_
  refine l_build ?_
  refine l_mput keyS (ev := (fun v => .agg (c_TShape v))) (m := (mput (mput (mput (mput (mput (mput (mput (mput (mput (mput (mput (mput [] [108, 97, 115, 116] (TShape.mk 0 0 false)) [112, 111, 115, 105, 116, 105, 111, 110] (TShape.mk 0 0 false)) [99, 111, 117, 110, 116] (TShape.mk 1 1 true)) [105, 100] (TShape.mk 1 1 false)) [108, 111, 99, 97, 108, 45, 110, 97, 109, 101] (TShape.mk 0 1 true)) [110, 97, 109, 101, 115, 112, 97, 99, 101, 45, 117, 114, 105] (TShape.mk 0 1 true)) [110, 97, 109, 101] (TShape.mk 0 1 true)) [115, 116, 114, 105, 110, 103] (TShape.mk 0 1 false)) [99, 111, 110, 99, 97, 116] (TShape.mk 2 1048576 false)) [115, 116, 97, 114, 116, 115, 45, 119, 105, 116, 104] (TShape.mk 2 2 false)) [99, 111, 110, 116, 97, 105, 110, 115] (TShape.mk 2 2 false)) [115, 117, 98, 115, 116, 114, 105, 110, 103, 45, 98, 101, 102, 111, 114, 101] (TShape.mk 2 2 false))) (k := [115, 117, 98, 115, 116, 114, 105, 110, 103, 45, 97, 102, 116, 101, 114]) (TShape.mk 2 2 false) ?_
  refine l_build ?_
  refine l_mput keyS (ev := (fun v => .agg (c_TShape v))) (m := (mput (mput (mput (mput (mput (mput (mput (mput (mput (mput (mput (mput (mput [] [108, 97, 115, 116] (TShape.mk 0 0 false)) [112, 111, 115, 105, 116, 105, 111, 110] (TShape.mk 0 0 false)) [99, 111, 117, 110, 116] (TShape.mk 1 1 true)) [105, 100] (TShape.mk 1 1 false)) [108, 111, 99, 97, 108, 45, 110, 97, 109, 101] (TShape.mk 0 1 true)) [110, 97, 109, 101, 115, 112, 97, 99, 101, 45, 117, 114, 105] (TShape.mk 0 1 true)) [110, 97, 109, 101] (TShape.mk 0 1 true)) [115, 116, 114, 105, 110, 103] (TShape.mk 0 1 false)) [99, 111, 110, 99, 97, 116] (TShape.mk 2 1048576 false)) [115, 116, 97, 114, 116, 115, 45, 119, 105, 116, 104] (TShape.mk 2 2 false)) [99, 111, 110, 116, 97, 105, 110, 115] (TShape.mk 2 2 false)) [115, 117, 98, 115, 116, 114, 105, 110, 103, 45, 98, 101, 102, 111, 114, 101] (TShape.mk 2 2 false)) [115, 117, 98, 115, 116, 114, 105, 110, 103, 45, 97, 102, 116, 101, 114] (TShape.mk 2 2 false))) (k := [115, 117, 98, 115, 116, 114, 105, 110, 103]) (TShape.mk 2 3 false) ?_
  refine l_build ?_
  refine l_mput keyS (ev := (fun v => .agg (c_TShape v))) (m := (mput (mput (mput (mput (mput (mput (mput (mput (mput (mput (mput (mput (mput (mput [] [108, 97, 115, 116] (TShape.mk 0 0 false)) [112, 111, 115, 105, 116, 105, 111, 110] (TShape.mk 0 0 false)) [99, 111, 117, 110, 116] (TShape.mk 1 1 true)) [105, 100] (TShape.mk 1 1 false)) [108, 111, 99, 97, 108, 45, 110, 97, 109, 101] (TShape.mk 0 1 true)) [110, 97, 109, 101, 115, 112, 97, 99, 101, 45, 117, 114, 105] (TShape.mk 0 1 true)) [110, 97, 109, 101] (TShape.mk 0 1 true)) [115, 116, 114, 105, 110, 103] (TShape.mk 0 1 false)) [99, 111, 110, 99, 97, 116] (TShape.mk 2 1048576 false)) [115, 116, 97, 114, 116, 115, 45, 119, 105, 116, 104] (TShape.mk 2 2 false)) [99, 111, 110, 116, 97, 105, 110, 115] (TShape.mk 2 2 false)) [115, 117, 98, 115, 116, 114, 105, 110, 103, 45, 98, 101, 102, 111, 114, 101] (TShape.mk 2 2 false)) [115, 117, 98, 115, 116, 114, 105, 110, 103, 45, 97, 102, 116, 101, 114] (TShape.mk 2 2 false)) [115, 117, 98, 115, 116, 114, 105, 110, 103] (TShape.mk 2 3 false))) (k := [115, 116, 114, 105, 110, 103, 45, 108, 101, 110, 103, 116, 104]) (TShape.mk 0 1 false) ?_
  refine l_build ?_
  refine l_mput keyS (ev := (fun v => .agg (c_TShape v))) (m := (mput (mput (mput (mput (mput (mput (mput (mput (mput (mput (mput (mput (mput (mput (mput [] [108, 97, 115, 116] (TShape.mk 0 0 false)) [112, 111, 115, 105, 116, 105, 111, 110] (TShape.mk 0 0 false)) [99, 111, 117, 110, 116] (TShape.mk 1 1 true)) [105, 100] (TShape.mk 1 1 false)) [108, 111, 99, 97, 108, 45, 110, 97, 109, 101] (TShape.mk 0 1 true)) [110, 97, 109, 101, 115, 112, 97, 99, 101, 45, 117, 114, 105] (TShape.mk 0 1 true)) [110, 97, 109, 101] (TShape.mk 0 1 true)) [115, 116, 114, 105, 110, 103] (TShape.mk 0 1 false)) [99, 111, 110, 99, 97, 116] (TShape.mk 2 1048576 false)) [115, 116, 97, 114, 116, 115, 45, 119, 105, 116, 104] (TShape.mk 2 2 false)) [99, 111, 110, 116, 97, 105, 110, 115] (TShape.mk 2 2 false)) [115, 117, 98, 115, 116, 114, 105, 110, 103, 45, 98, 101, 102, 111, 114, 101] (TShape.mk 2 2 false)) [115, 117, 98, 115, 116, 114, 105, 110, 103, 45, 97, 102, 116, 101, 114] (TShape.mk 2 2 false)) [115, 117, 98, 115, 116, 114, 105, 110, 103] (TShape.mk 2 3 false)) [115, 116, 114, 105, 110, 103, 45, 108, 101, 110, 103, 116, 104] (TShape.mk 0 1 false))) (k := [110, 111, 114, 109, 97, 108, 105, 122, 101, 45, 115, 112, 97, 99, 101]) (TShape.mk 0 1 false) ?_
  refine l_build ?_
  refine l_mput keyS (ev := (fun v => .agg (c_TShape v))) (m := (mput (mput (mput (mput (mput (mput (mput (mput (mput (mput (mput (mput (mput (mput (mput (mput [] [108, 97, 115, 116] (TShape.mk 0 0 false)) [112, 111, 115, 105, 116, 105, 111, 110] (TShape.mk 0 0 false)) [99, 111, 117, 110, 116] (TShape.mk 1 1 true)) [105, 100] (TShape.mk 1 1 false)) [108, 111, 99, 97, 108, 45, 110, 97, 109, 101] (TShape.mk 0 1 true)) [110, 97, 109, 101, 115, 112, 97, 99, 101, 45, 117, 114, 105] (TShape.mk 0 1 true)) [110, 97, 109, 101] (TShape.mk 0 1 true)) [115, 116, 114, 105, 110, 103] (TShape.mk 0 1 false)) [99, 111, 110, 99, 97, 116] (TShape.mk 2 1048576 false)) [115, 116, 97, 114, 116, 115, 45, 119, 105, 116, 104] (TShape.mk 2 2 false)) [99, 111, 110, 116, 97, 105, 110, 115] (TShape.mk 2 2 false)) [115, 117, 98, 115, 116, 114, 105, 110, 103, 45, 98, 101, 102, 111, 114, 101] (TShape.mk 2 2 false)) [115, 117, 98, 115, 116, 114, 105, 110, 103, 45, 97, 102, 116, 101, 114] (TShape.mk 2 2 false)) [115, 117, 98, 115, 116, 114, 105, 110, 103] (TShape.mk 2 3 false)) [115, 116, 114, 105, 110, 103, 45, 108, 101, 110, 103, 116, 104] (TShape.mk 0 1 false)) [110, 111, 114, 109, 97, 108, 105, 122, 101, 45, 115, 112, 97, 99, 101] (TShape.mk 0 1 false))) (k := [116, 114, 97, 110, 115, 108, 97, 116, 101]) (TShape.mk 3 3 false) ?_
  refine l_build ?_
  refine l_mput keyS (ev := (fun v => .agg (c_TShape v))) (m := (mput (mput (mput (mput (mput (mput (mput (mput (mput (mput (mput (mput (mput (mput (mput (mput (mput [] [108, 97, 115, 116] (TShape.mk 0 0 false)) [112, 111, 115, 105, 116, 105, 111, 110] (TShape.mk 0 0 false)) [99, 111, 117, 110, 116] (TShape.mk 1 1 true)) [105, 100] (TShape.mk 1 1 false)) [108, 111, 99, 97, 108, 45, 110, 97, 109, 101] (TShape.mk 0 1 true)) [110, 97, 109, 101, 115, 112, 97, 99, 101, 45, 117, 114, 105] (TShape.mk 0 1 true)) [110, 97, 109, 101] (TShape.mk 0 1 true)) [115, 116, 114, 105, 110, 103] (TShape.mk 0 1 false)) [99, 111, 110, 99, 97, 116] (TShape.mk 2 1048576 false)) [115, 116, 97, 114, 116, 115, 45, 119, 105, 116, 104] (TShape.mk 2 2 false)) [99, 111, 110, 116, 97, 105, 110, 115] (TShape.mk 2 2 false)) [115, 117, 98, 115, 116, 114, 105, 110, 103, 45, 98, 101, 102, 111, 114, 101] (TShape.mk 2 2 false)) [115, 117, 98, 115, 116, 114, 105, 110, 103, 45, 97, 102, 116, 101, 114] (TShape.mk 2 2 false)) [115, 117, 98, 115, 116, 114, 105, 110, 103] (TShape.mk 2 3 false)) [115, 116, 114, 105, 110, 103, 45, 108, 101, 110, 103, 116, 104] (TShape.mk 0 1 false)) [110, 111, 114, 109, 97, 108, 105, 122, 101, 45, 115, 112, 97, 99, 101] (TShape.mk 0 1 false)) [116, 114, 97, 110, 115, 108, 97, 116, 101] (TShape.mk 3 3 false))) (k := [98, 111, 111, 108, 101, 97, 110]) (TShape.mk 1 1 false) ?_
  refine l_build ?_
  refine l_mput keyS (ev := (fun v => .agg (c_TShape v))) (m := (mput (mput (mput (mput (mput (mput (mput (mput (mput (mput (mput (mput (mput (mput (mput (mput (mput (mput [] [108, 97, 115, 116] (TShape.mk 0 0 false)) [112, 111, 115, 105, 116, 105, 111, 110] (TShape.mk 0 0 false)) [99, 111, 117, 110, 116] (TShape.mk 1 1 true)) [105, 100] (TShape.mk 1 1 false)) [108, 111, 99, 97, 108, 45, 110, 97, 109, 101] (TShape.mk 0 1 true)) [110, 97, 109, 101, 115, 112, 97, 99, 101, 45, 117, 114, 105] (TShape.mk 0 1 true)) [110, 97, 109, 101] (TShape.mk 0 1 true)) [115, 116, 114, 105, 110, 103] (TShape.mk 0 1 false)) [99, 111, 110, 99, 97, 116] (TShape.mk 2 1048576 false)) [115, 116, 97, 114, 116, 115, 45, 119, 105, 116, 104] (TShape.mk 2 2 false)) [99, 111, 110, 116, 97, 105, 110, 115] (TShape.mk 2 2 false)) [115, 117, 98, 115, 116, 114, 105, 110, 103, 45, 98, 101, 102, 111, 114, 101] (TShape.mk 2 2 false)) [115, 117, 98, 115, 116, 114, 105, 110, 103, 45, 97, 102, 116, 101, 114] (TShape.mk 2 2 false)) [115, 117, 98, 115, 116, 114, 105, 110, 103] (TShape.mk 2 3 false)) [115, 116, 114, 105, 110, 103, 45, 108, 101, 110, 103, 116, 104] (TShape.mk 0 1 false)) [110, 111, 114, 109, 97, 108, 105, 122, 101, 45, 115, 112, 97, 99, 101] (TShape.mk 0 1 false)) [116, 114, 97, 110, 115, 108, 97, 116, 101] (TShape.mk 3 3 false)) [98, 111, 111, 108, 101, 97, 110] (TShape.mk 1 1 false))) (k := [110, 111, 116]) (TShape.mk 1 1 false) ?_
  refine l_build ?_
  refine l_mput keyS (ev := (fun v => .agg (c_TShape v))) (m := (mput (mput (mput (mput (mput (mput (mput (mput (mput (mput (mput (mput (mput (mput (mput (mput (mput (mput (mput [] [108, 97, 115, 116] (TShape.mk 0 0 false)) [112, 111, 115, 105, 116, 105, 111, 110] (TShape.mk 0 0 false)) [99, 111, 117, 110, 116] (TShape.mk 1 1 true)) [105, 100] (TShape.mk 1 1 false)) [108, 111, 99, 97, 108, 45, 110, 97, 109, 101] (TShape.mk 0 1 true)) [110, 97, 109, 101, 115, 112, 97, 99, 101, 45, 117, 114, 105] (TShape.mk 0 1 true)) [110, 97, 109, 101] (TShape.mk 0 1 true)) [115, 116, 114, 105, 110, 103] (TShape.mk 0 1 false)) [99, 111, 110, 99, 97, 116] (TShape.mk 2 1048576 false)) [115, 116, 97, 114, 116, 115, 45, 119, 105, 116, 104] (TShape.mk 2 2 false)) [99, 111, 110, 116, 97, 105, 110, 115] (TShape.mk 2 2 false)) [115, 117, 98, 115, 116, 114, 105, 110, 103, 45, 98, 101, 102, 111, 114, 101] (TShape.mk 2 2 false)) [115, 117, 98, 115, 116, 114, 105, 110, 103, 45, 97, 102, 116, 101, 114] (TShape.mk 2 2 false)) [115, 117, 98, 115, 116, 114, 105, 110, 103] (TShape.mk 2 3 false)) [115, 116, 114, 105, 110, 103, 45, 108, 101, 110, 103, 116, 104] (TShape.mk 0 1 false)) [110, 111, 114, 109, 97, 108, 105, 122, 101, 45, 115, 112, 97, 99, 101] (TShape.mk 0 1 false)) [116, 114, 97, 110, 115, 108, 97, 116, 101] (TShape.mk 3 3 false)) [98, 111, 111, 108, 101, 97, 110] (TShape.mk 1 1 false)) [110, 111, 116] (TShape.mk 1 1 false))) (k := [116, 114, 117, 101]) (TShape.mk 0 0 false) ?_
  refine l_build ?_
  refine l_mput keyS (ev := (fun v => .agg (c_TShape v))) (m := (mput (mput (mput (mput (mput (mput (mput (mput (mput (mput (mput (mput (mput (mput (mput (mput (mput (mput (mput (mput [] [108, 97, 115, 116] (TShape.mk 0 0 false)) [112, 111, 115, 105, 116, 105, 111, 110] (TShape.mk 0 0 false)) [99, 111, 117, 110, 116] (TShape.mk 1 1 true)) [105, 100] (TShape.mk 1 1 false)) [108, 111, 99, 97, 108, 45, 110, 97, 109, 101] (TShape.mk 0 1 true)) [110, 97, 109, 101, 115, 112, 97, 99, 101, 45, 117, 114, 105] (TShape.mk 0 1 true)) [110, 97, 109, 101] (TShape.mk 0 1 true)) [115, 116, 114, 105, 110, 103] (TShape.mk 0 1 false)) [99, 111, 110, 99, 97, 116] (TShape.mk 2 1048576 false)) [115, 116, 97, 114, 116, 115, 45, 119, 105, 116, 104] (TShape.mk 2 2 false)) [99, 111, 110, 116, 97, 105, 110, 115] (TShape.mk 2 2 false)) [115, 117, 98, 115, 116, 114, 105, 110, 103, 45, 98, 101, 102, 111, 114, 101] (TShape.mk 2 2 false)) [115, 117, 98, 115, 116, 114, 105, 110, 103, 45, 97, 102, 116, 101, 114] (TShape.mk 2 2 false)) [115, 117, 98, 115, 116, 114, 105, 110, 103] (TShape.mk 2 3 false)) [115, 116, 114, 105, 110, 103, 45, 108, 101, 110, 103, 116, 104] (TShape.mk 0 1 false)) [110, 111, 114, 109, 97, 108, 105, 122, 101, 45, 115, 112, 97, 99, 101] (TShape.mk 0 1 false)) [116, 114, 97, 110, 115, 108, 97, 116, 101] (TShape.mk 3 3 false)) [98, 111, 111, 108, 101, 97, 110] (TShape.mk 1 1 false)) [110, 111, 116] (TShape.mk 1 1 false)) [116, 114, 117, 101] (TShape.mk 0 0 false))) (k := [102, 97, 108, 115, 101]) (TShape.mk 0 0 false) ?_
  refine l_build ?_
  refine l_mput keyS (ev := (fun v => .agg (c_TShape v))) (m := (mput (mput (mput (mput (mput (mput (mput (mput (mput (mput (mput (mput (mput (mput (mput (mput (mput (mput (mput (mput (mput [] [108, 97, 115, 116] (TShape.mk 0 0 false)) [112, 111, 115, 105, 116, 105, 111, 110] (TShape.mk 0 0 false)) [99, 111, 117, 110, 116] (TShape.mk 1 1 true)) [105, 100] (TShape.mk 1 1 false)) [108, 111, 99, 97, 108, 45, 110, 97, 109, 101] (TShape.mk 0 1 true)) [110, 97, 109, 101, 115, 112, 97, 99, 101, 45, 117, 114, 105] (TShape.mk 0 1 true)) [110, 97, 109, 101] (TShape.mk 0 1 true)) [115, 116, 114, 105, 110, 103] (TShape.mk 0 1 false)) [99, 111, 110, 99, 97, 116] (TShape.mk 2 1048576 false)) [115, 116, 97, 114, 116, 115, 45, 119, 105, 116, 104] (TShape.mk 2 2 false)) [99, 111, 110, 116, 97, 105, 110, 115] (TShape.mk 2 2 false)) [115, 117, 98, 115, 116, 114, 105, 110, 103, 45, 98, 101, 102, 111, 114, 101] (TShape.mk 2 2 false)) [115, 117, 98, 115, 116, 114, 105, 110, 103, 45, 97, 102, 116, 101, 114] (TShape.mk 2 2 false)) [115, 117, 98, 115, 116, 114, 105, 110, 103] (TShape.mk 2 3 false)) [115, 116, 114, 105, 110, 103, 45, 108, 101, 110, 103, 116, 104] (TShape.mk 0 1 false)) [110, 111, 114, 109, 97, 108, 105, 122, 101, 45, 115, 112, 97, 99, 101] (TShape.mk 0 1 false)) [116, 114, 97, 110, 115, 108, 97, 116, 101] (TShape.mk 3 3 false)) [98, 111, 111, 108, 101, 97, 110] (TShape.mk 1 1 false)) [110, 111, 116] (TShape.mk 1 1 false)) [116, 114, 117, 101] (TShape.mk 0 0 false)) [102, 97, 108, 115, 101] (TShape.mk 0 0 false))) (k := [108, 97, 110, 103]) (TShape.mk 1 1 false) ?_
  refine l_build ?_
  refine l_mput keyS (ev := (fun v => .agg (c_TShape v))) (m := (mput (mput (mput (mput (mput (mput (mput (mput (mput (mput (mput (mput (mput (mput (mput (mput (mput (mput (mput (mput (mput (mput [] [108, 97, 115, 116] (TShape.mk 0 0 false)) [112, 111, 115, 105, 116, 105, 111, 110] (TShape.mk 0 0 false)) [99, 111, 117, 110, 116] (TShape.mk 1 1 true)) [105, 100] (TShape.mk 1 1 false)) [108, 111, 99, 97, 108, 45, 110, 97, 109, 101] (TShape.mk 0 1 true)) [110, 97, 109, 101, 115, 112, 97, 99, 101, 45, 117, 114, 105] (TShape.mk 0 1 true)) [110, 97, 109, 101] (TShape.mk 0 1 true)) [115, 116, 114, 105, 110, 103] (TShape.mk 0 1 false)) [99, 111, 110, 99, 97, 116] (TShape.mk 2 1048576 false)) [115, 116, 97, 114, 116, 115, 45, 119, 105, 116, 104] (TShape.mk 2 2 false)) [99, 111, 110, 116, 97, 105, 110, 115] (TShape.mk 2 2 false)) [115, 117, 98, 115, 116, 114, 105, 110, 103, 45, 98, 101, 102, 111, 114, 101] (TShape.mk 2 2 false)) [115, 117, 98, 115, 116, 114, 105, 110, 103, 45, 97, 102, 116, 101, 114] (TShape.mk 2 2 false)) [115, 117, 98, 115, 116, 114, 105, 110, 103] (TShape.mk 2 3 false)) [115, 116, 114, 105, 110, 103, 45, 108, 101, 110, 103, 116, 104] (TShape.mk 0 1 false)) [110, 111, 114, 109, 97, 108, 105, 122, 101, 45, 115, 112, 97, 99, 101] (TShape.mk 0 1 false)) [116, 114, 97, 110, 115, 108, 97, 116, 101] (TShape.mk 3 3 false)) [98, 111, 111, 108, 101, 97, 110] (TShape.mk 1 1 false)) [110, 111, 116] (TShape.mk 1 1 false)) [116, 114, 117, 101] (TShape.mk 0 0 false)) [102, 97, 108, 115, 101] (TShape.mk 0 0 false)) [108, 97, 110, 103] (TShape.mk 1 1 false))) (k := [110, 117, 109, 98, 101, 114]) (TShape.mk 0 1 false) ?_
  refine l_build ?_
  refine l_mput keyS (ev := (fun v => .agg (c_TShape v))) (m := (mput (mput (mput (mput (mput (mput (mput (mput (mput (mput (mput (mput (mput (mput (mput (mput (mput (mput (mput (mput (mput (mput (mput [] [108, 97, 115, 116] (TShape.mk 0 0 false)) [112, 111, 115, 105, 116, 105, 111, 110] (TShape.mk 0 0 false)) [99, 111, 117, 110, 116] (TShape.mk 1 1 true)) [105, 100] (TShape.mk 1 1 false)) [108, 111, 99, 97, 108, 45, 110, 97, 109, 101] (TShape.mk 0 1 true)) [110, 97, 109, 101, 115, 112, 97, 99, 101, 45, 117, 114, 105] (TShape.mk 0 1 true)) [110, 97, 109, 101] (TShape.mk 0 1 true)) [115, 116, 114, 105, 110, 103] (TShape.mk 0 1 false)) [99, 111, 110, 99, 97, 116] (TShape.mk 2 1048576 false)) [115, 116, 97, 114, 116, 115, 45, 119, 105, 116, 104] (TShape.mk 2 2 false)) [99, 111, 110, 116, 97, 105, 110, 115] (TShape.mk 2 2 false)) [115, 117, 98, 115, 116, 114, 105, 110, 103, 45, 98, 101, 102, 111, 114, 101] (TShape.mk 2 2 false)) [115, 117, 98, 115, 116, 114, 105, 110, 103, 45, 97, 102, 116, 101, 114] (TShape.mk 2 2 false)) [115, 117, 98, 115, 116, 114, 105, 110, 103] (TShape.mk 2 3 false)) [115, 116, 114, 105, 110, 103, 45, 108, 101, 110, 103, 116, 104] (TShape.mk 0 1 false)) [110, 111, 114, 109, 97, 108, 105, 122, 101, 45, 115, 112, 97, 99, 101] (TShape.mk 0 1 false)) [116, 114, 97, 110, 115, 108, 97, 116, 101] (TShape.mk 3 3 false)) [98, 111, 111, 108, 101, 97, 110] (TShape.mk 1 1 false)) [110, 111, 116] (TShape.mk 1 1 false)) [116, 114, 117, 101] (TShape.mk 0 0 false)) [102, 97, 108, 115, 101] (TShape.mk 0 0 false)) [108, 97, 110, 103] (TShape.mk 1 1 false)) [110, 117, 109, 98, 101, 114] (TShape.mk 0 1 false))) (k := [115, 117, 109]) (TShape.mk 1 1 true) ?_
  refine l_build ?_
  refine l_mput keyS (ev := (fun v => .agg (c_TShape v))) (m := (mput (mput (mput (mput (mput (mput (mput (mput (mput (mput (mput (mput (mput (mput (mput (mput (mput (mput (mput (mput (mput (mput (mput (mput [] [108, 97, 115, 116] (TShape.mk 0 0 false)) [112, 111, 115, 105, 116, 105, 111, 110] (TShape.mk 0 0 false)) [99, 111, 117, 110, 116] (TShape.mk 1 1 true)) [105, 100] (TShape.mk 1 1 false)) [108, 111, 99, 97, 108, 45, 110, 97, 109, 101] (TShape.mk 0 1 true)) [110, 97, 109, 101, 115, 112, 97, 99, 101, 45, 117, 114, 105] (TShape.mk 0 1 true)) [110, 97, 109, 101] (TShape.mk 0 1 true)) [115, 116, 114, 105, 110, 103] (TShape.mk 0 1 false)) [99, 111, 110, 99, 97, 116] (TShape.mk 2 1048576 false)) [115, 116, 97, 114, 116, 115, 45, 119, 105, 116, 104] (TShape.mk 2 2 false)) [99, 111, 110, 116, 97, 105, 110, 115] (TShape.mk 2 2 false)) [115, 117, 98, 115, 116, 114, 105, 110, 103, 45, 98, 101, 102, 111, 114, 101] (TShape.mk 2 2 false)) [115, 117, 98, 115, 116, 114, 105, 110, 103, 45, 97, 102, 116, 101, 114] (TShape.mk 2 2 false)) [115, 117, 98, 115, 116, 114, 105, 110, 103] (TShape.mk 2 3 false)) [115, 116, 114, 105, 110, 103, 45, 108, 101, 110, 103, 116, 104] (TShape.mk 0 1 false)) [110, 111, 114, 109, 97, 108, 105, 122, 101, 45, 115, 112, 97, 99, 101] (TShape.mk 0 1 false)) [116, 114, 97, 110, 115, 108, 97, 116, 101] (TShape.mk 3 3 false)) [98, 111, 111, 108, 101, 97, 110] (TShape.mk 1 1 false)) [110, 111, 116] (TShape.mk 1 1 false)) [116, 114, 117, 101] (TShape.mk 0 0 false)) [102, 97, 108, 115, 101] (TShape.mk 0 0 false)) [108, 97, 110, 103] (TShape.mk 1 1 false)) [110, 117, 109, 98, 101, 114] (TShape.mk 0 1 false)) [115, 117, 109] (TShape.mk 1 1 true))) (k := [102, 108, 111, 111, 114]) (TShape.mk 1 1 false) ?_
  refine l_build ?_
  refine l_mput keyS (ev := (fun v => .agg (c_TShape v))) (m := (mput (mput (mput (mput (mput (mput (mput (mput (mput (mput (mput (mput (mput (mput (mput (mput (mput (mput (mput (mput (mput (mput (mput (mput (mput [] [108, 97, 115, 116] (TShape.mk 0 0 false)) [112, 111, 115, 105, 116, 105, 111, 110] (TShape.mk 0 0 false)) [99, 111, 117, 110, 116] (TShape.mk 1 1 true)) [105, 100] (TShape.mk 1 1 false)) [108, 111, 99, 97, 108, 45, 110, 97, 109, 101] (TShape.mk 0 1 true)) [110, 97, 109, 101, 115, 112, 97, 99, 101, 45, 117, 114, 105] (TShape.mk 0 1 true)) [110, 97, 109, 101] (TShape.mk 0 1 true)) [115, 116, 114, 105, 110, 103] (TShape.mk 0 1 false)) [99, 111, 110, 99, 97, 116] (TShape.mk 2 1048576 false)) [115, 116, 97, 114, 116, 115, 45, 119, 105, 116, 104] (TShape.mk 2 2 false)) [99, 111, 110, 116, 97, 105, 110, 115] (TShape.mk 2 2 false)) [115, 117, 98, 115, 116, 114, 105, 110, 103, 45, 98, 101, 102, 111, 114, 101] (TShape.mk 2 2 false)) [115, 117, 98, 115, 116, 114, 105, 110, 103, 45, 97, 102, 116, 101, 114] (TShape.mk 2 2 false)) [115, 117, 98, 115, 116, 114, 105, 110, 103] (TShape.mk 2 3 false)) [115, 116, 114, 105, 110, 103, 45, 108, 101, 110, 103, 116, 104] (TShape.mk 0 1 false)) [110, 111, 114, 109, 97, 108, 105, 122, 101, 45, 115, 112, 97, 99, 101] (TShape.mk 0 1 false)) [116, 114, 97, 110, 115, 108, 97, 116, 101] (TShape.mk 3 3 false)) [98, 111, 111, 108, 101, 97, 110] (TShape.mk 1 1 false)) [110, 111, 116] (TShape.mk 1 1 false)) [116, 114, 117, 101] (TShape.mk 0 0 false)) [102, 97, 108, 115, 101] (TShape.mk 0 0 false)) [108, 97, 110, 103] (TShape.mk 1 1 false)) [110, 117, 109, 98, 101, 114] (TShape.mk 0 1 false)) [115, 117, 109] (TShape.mk 1 1 true)) [102, 108, 111, 111, 114] (TShape.mk 1 1 false))) (k := [99, 101, 105, 108, 105, 110, 103]) (TShape.mk 1 1 false) ?_
  refine l_build ?_
  refine l_mput keyS (ev := (fun v => .agg (c_TShape v))) (m := (mput (mput (mput (mput (mput (mput (mput (mput (mput (mput (mput (mput (mput (mput (mput (mput (mput (mput (mput (mput (mput (mput (mput (mput (mput (mput [] [108, 97, 115, 116] (TShape.mk 0 0 false)) [112, 111, 115, 105, 116, 105, 111, 110] (TShape.mk 0 0 false)) [99, 111, 117, 110, 116] (TShape.mk 1 1 true)) [105, 100] (TShape.mk 1 1 false)) [108, 111, 99, 97, 108, 45, 110, 97, 109, 101] (TShape.mk 0 1 true)) [110, 97, 109, 101, 115, 112, 97, 99, 101, 45, 117, 114, 105] (TShape.mk 0 1 true)) [110, 97, 109, 101] (TShape.mk 0 1 true)) [115, 116, 114, 105, 110, 103] (TShape.mk 0 1 false)) [99, 111, 110, 99, 97, 116] (TShape.mk 2 1048576 false)) [115, 116, 97, 114, 116, 115, 45, 119, 105, 116, 104] (TShape.mk 2 2 false)) [99, 111, 110, 116, 97, 105, 110, 115] (TShape.mk 2 2 false)) [115, 117, 98, 115, 116, 114, 105, 110, 103, 45, 98, 101, 102, 111, 114, 101] (TShape.mk 2 2 false)) [115, 117, 98, 115, 116, 114, 105, 110, 103, 45, 97, 102, 116, 101, 114] (TShape.mk 2 2 false)) [115, 117, 98, 115, 116, 114, 105, 110, 103] (TShape.mk 2 3 false)) [115, 116, 114, 105, 110, 103, 45, 108, 101, 110, 103, 116, 104] (TShape.mk 0 1 false)) [110, 111, 114, 109, 97, 108, 105, 122, 101, 45, 115, 112, 97, 99, 101] (TShape.mk 0 1 false)) [116, 114, 97, 110, 115, 108, 97, 116, 101] (TShape.mk 3 3 false)) [98, 111, 111, 108, 101, 97, 110] (TShape.mk 1 1 false)) [110, 111, 116] (TShape.mk 1 1 false)) [116, 114, 117, 101] (TShape.mk 0 0 false)) [102, 97, 108, 115, 101] (TShape.mk 0 0 false)) [108, 97, 110, 103] (TShape.mk 1 1 false)) [110, 117, 109, 98, 101, 114] (TShape.mk 0 1 false)) [115, 117, 109] (TShape.mk 1 1 true)) [102, 108, 111, 111, 114] (TShape.mk 1 1 false)) [99, 101, 105, 108, 105, 110, 103] (TShape.mk 1 1 false))) (k := [114, 111, 117, 110, 100]) (TShape.mk 1 1 false) ?_
  refine l_move ?_
  refine l_assign ?_
  refine k_nil ?_
  refine f_t ?_
  refine k_retc ?_
  apply k_ret [(1001, 1)] hB h
theorem strconv_FormatInt_ok {i base : Int} {r : Str} (h : strconv_FormatInt i base = some r) : XSpec Tryz.prog 182 [I i, I base] [] (S r) [] [] := by
  unfold strconv_FormatInt at h
  cases e : decide (base = 10 ∧ -9223372036854775808 ≤ i ∧ i ≤ 9223372036854775807) with
  | false => rw [e] at h; cases h
  | true =>
    rw [e] at h; cases h
    obtain ⟨rfl, h1, h2⟩ := of_decide_eq_true e
    exact fmt_x Tryz.fmt182 (g := fmtG) (j := 2) (by kernel_rfl) rfl (fun es w => enters_of Tryz.func182 (by kernel_rfl) rfl es w) i ⟨h1, h2⟩
theorem value_AsText_ok {d : (Option TDoc)} {v_ : TValue} {r : Str} (h : value_AsText d v_ = some r) : XSpec Tryz.prog 140 [oP c_TDoc d, .agg (c_TValue v_)] [] (S r) [] [] := by
  unfold value_AsText at h
  refine X_of_run Tryz.hU Tryz.func140 (fun _ _ _ hB => ?_)
  refine k_seq ?_
  refine k_reg ?_
  refine l_box ?_
  refine l_assign ?_
  refine k_nil ?_
  refine f_t ?_
  refine k_seq ?_
  refine k_block ?_
  refine k_seq ?_
  refine k_cut (fun q1 => (.normal, ⟨[(0, oP c_TDoc d), (3, .ptr 1003 0), (5, B q1)], [(1003, .box 40 [I v_.Kind, .vs v_.Set.length (F c_TPoint v_.Set), B v_.Bool_, I v_.N, B v_.NaN, S v_.Text])], []⟩)) h (fun t h => ?_) (fun q1 h => ?_)
  · refine k_reg ?_
    refine l_fieldAddr ?_
    refine l_load ?_
    refine l_cmp ?_
    refine l_move ?_
    refine l_split h (fun _ h => ?_) (fun _ h => ?_)
    · refine l_on ?_
      refine l_fieldAddr ?_
      refine l_on ?_
      refine l_load ?_
      refine l_on ?_
      refine l_len ?_
      refine l_on ?_
      refine l_cmp ?_
      refine l_pick_true ?_
      refine l_assign ?_
      refine k_nil ?_
      exact k_out [(1003, 1003)] hB h
    refine l_off ?_
    refine l_off ?_
    refine l_off ?_
    refine l_off ?_
    refine l_pick_false ?_
    refine l_assign ?_
    refine k_nil ?_
    exact k_out [(1003, 1003)] hB h
  refine f_t ?_
  refine k_if h (fun _ h => ?_) (fun _ h => ?_)
  · refine k_seq ?_
    refine k_reg ?_
    refine l_move ?_
    refine l_fieldAddr ?_
    refine l_load ?_
    cases h
  refine k_seq ?_
  refine k_cut (fun q3 => (.normal, ⟨[(3, .ptr 1003 0), (21, B q3)], [(1003, .box 40 [I v_.Kind, .vs v_.Set.length (F c_TPoint v_.Set), B v_.Bool_, I v_.N, B v_.NaN, S v_.Text])], []⟩)) h (fun t h => ?_) (fun q3 h => ?_)
  · refine k_reg ?_
    refine l_fieldAddr ?_
    refine l_load ?_
    refine l_cmp ?_
    refine l_move ?_
    refine l_split h (fun _ h => ?_) (fun _ h => ?_)
    · refine l_on ?_
      refine l_fieldAddr ?_
      refine l_on ?_
      refine l_load ?_
      refine l_pick_true ?_
      refine l_assign ?_
      refine k_nil ?_
      exact k_out [(1003, 1003)] hB h
    refine l_off ?_
    refine l_off ?_
    refine l_pick_false ?_
    refine l_assign ?_
    refine k_nil ?_
    exact k_out [(1003, 1003)] hB h
  refine f_t ?_
  refine k_if h (fun _ h => ?_) (fun _ h => ?_)
  · refine k_seq ?_
    refine k_reg ?_
    refine l_assign ?_
    refine k_nil ?_
    refine f_t ?_
    refine k_retc ?_
    refine f_br ?_
    refine f_tr ?_
    apply k_ret [] hB h
  refine k_seq ?_
  refine k_reg ?_
  refine l_fieldAddr ?_
  refine l_load ?_
  refine l_cmp ?_
  refine l_assign ?_
  refine k_nil ?_
  refine f_t ?_
  refine k_if h (fun _ h => ?_) (fun _ h => ?_)
  · refine k_seq ?_
    refine k_reg ?_
    refine l_assign ?_
    refine k_nil ?_
    refine f_t ?_
    refine k_retc ?_
    refine f_br ?_
    refine f_tr ?_
    apply k_ret [] hB h
  refine k_seq ?_
  refine k_reg ?_
  refine l_fieldAddr ?_
  refine l_load ?_
  refine l_cmp ?_
  refine l_move ?_
  refine l_split h (fun _ h => ?_) (fun _ h => ?_)
  · refine l_on ?_
    refine l_fieldAddr ?_
    refine l_on ?_
    refine l_load ?_
    refine l_pick_true ?_
    refine l_assign ?_
    refine k_nil ?_
    refine f_t ?_
    refine k_if h (fun _ h => ?_) (fun _ h => ?_)
    · refine k_seq ?_
      refine k_reg ?_
      refine l_assign ?_
      refine k_nil ?_
      refine f_t ?_
      refine k_retc ?_
      refine f_br ?_
      refine f_tr ?_
      apply k_ret [] hB h
    refine k_seq ?_
    refine k_reg ?_
    refine l_fieldAddr ?_
    refine l_load ?_
    refine l_cmp ?_
    refine l_assign ?_
    refine k_nil ?_
    refine f_t ?_
    refine k_if h (fun _ h => ?_) (fun _ h => ?_)
    · refine k_seq ?_
      refine k_reg ?_
      refine l_fieldAddr ?_
      refine l_load ?_
      refine l_call h (fun _ => strconv_FormatInt_ok) (fun v4 _ h => ?_)
      refine l_assign ?_
      refine k_nil ?_
      refine f_t ?_
      refine k_retc ?_
      refine f_br ?_
      refine f_tr ?_
      apply k_ret [] hB h
    refine k_seq ?_
    refine k_reg ?_
    refine l_fieldAddr ?_
    refine l_load ?_
    refine l_cmp ?_
    refine l_assign ?_
    refine k_nil ?_
    refine f_t ?_
    refine k_if h (fun _ h => ?_) (fun _ h => ?_)
    · refine k_seq ?_
      refine k_reg ?_
      refine l_fieldAddr ?_
      refine l_load ?_
      refine l_assign ?_
      refine k_nil ?_
      refine f_t ?_
      refine k_retc ?_
      refine f_br ?_
      refine f_tr ?_
      apply k_ret [] hB h
    refine k_skip ?_
    refine f_b ?_
    refine f_t ?_
    refine k_seq ?_
    refine k_reg ?_
    refine l_assign ?_
    refine k_nil ?_
    refine f_t ?_
    refine k_retc ?_
    apply k_ret [] hB h
  refine l_off ?_
  refine l_off ?_
  refine l_pick_false ?_
  refine l_assign ?_
  refine k_nil ?_
  refine f_t ?_
  refine k_f ?_
  refine k_seq ?_
  refine k_reg ?_
  refine l_fieldAddr ?_
  refine l_load ?_
  refine l_cmp ?_
  refine l_assign ?_
  refine k_nil ?_
  refine f_t ?_
  refine k_if h (fun _ h => ?_) (fun _ h => ?_)
  · refine k_seq ?_
    refine k_reg ?_
    refine l_fieldAddr ?_
    refine l_load ?_
    refine l_call h (fun _ => strconv_FormatInt_ok) (fun v5 _ h => ?_)
    refine l_assign ?_
    refine k_nil ?_
    refine f_t ?_
    refine k_retc ?_
    refine f_br ?_
    refine f_tr ?_
    apply k_ret [] hB h
  refine k_seq ?_
  refine k_reg ?_
  refine l_fieldAddr ?_
  refine l_load ?_
  refine l_cmp ?_
  refine l_assign ?_
  refine k_nil ?_
  refine f_t ?_
  refine k_if h (fun _ h => ?_) (fun _ h => ?_)
  · refine k_seq ?_
    refine k_reg ?_
    refine l_fieldAddr ?_
    refine l_load ?_
    refine l_assign ?_
    refine k_nil ?_
    refine f_t ?_
    refine k_retc ?_
    refine f_br ?_
    refine f_tr ?_
    apply k_ret [] hB h
  refine k_skip ?_
  refine f_b ?_
  refine f_t ?_
  refine k_seq ?_
  refine k_reg ?_
  refine l_assign ?_
  refine k_nil ?_
  refine f_t ?_
  refine k_retc ?_
  apply k_ret [] hB h
theorem call_caller_text_ok {c : TCaller} {n : Int} {r : Str} (h : call_caller_text c n = some r) : XSpec Tryz.prog 95 [.agg (c_TCaller c), I n] [] (S r) [] [] := by
  unfold call_caller_text at h
  refine X_of_run Tryz.hU Tryz.func95 (fun _ _ _ hB => ?_)
  refine k_seq ?_
  refine k_reg ?_
  refine l_box ?_
  refine l_assign ?_
  refine k_nil ?_
  refine f_t ?_
  refine k_seq ?_
  refine k_seq ?_
  refine k_reg ?_
  refine l_move ?_
  refine l_fieldAddr ?_
  refine l_load ?_
  refine l_len ?_
  refine l_cmp ?_
  refine k_nil ?_
  refine f_t ?_
  refine k_if h (fun _ h => ?_) (fun _ h => ?_)
  · refine k_seq ?_
    refine k_mix [] (.q 0 (.q 1 (.q 2 (.q 3 (.q 4 (.q 5 (.q 6 (.q 7 (.e 8 (.q 9 (.done))))))))))) hm ?_
    refine gq ?_
    refine n_fieldAddr ?_
    refine gq ?_
    refine n_load ?_
    refine gq ?_
    cases h
  refine k_skip ?_
  refine f_t ?_
  refine k_seq ?_
  refine k_mix [] (.q 0 (.q 1 (.q 2 (.q 3 (.q 4 (.q 5 (.q 6 (.q 7 (.q 8 (.q 9 (.e 10 (.q 11 (.done))))))))))))) hm ?_
  refine gq ?_
  refine n_fieldAddr ?_
  refine gq ?_
  refine n_load ?_
  refine gq ?_
  refine n_deref h (fun v2 _ h => ?_)
  refine gq ?_
  refine n_fieldAddr ?_
  refine gq ?_
  refine n_load ?_
  refine gq ?_
  refine n_fieldAddr ?_
  refine gq ?_
  refine n_load ?_
  refine gq ?_
  refine n_move ?_
  refine gq ?_
  refine n_at h (fun v3 _ h => ?_)
  refine gq ?_
  refine n_load_agg ?_
  refine ge ?_
  refine n_call h (fun _ => value_AsText_ok) (fun v4 _ h => ?_)
  refine gq ?_
  refine n_assign ?_
  refine m_nil ?_
  refine f_t ?_
  refine k_retc ?_
  apply k_ret [] hB h
theorem name_Trim_ok {s : Str} {r : Str} (h : name_Trim s = some r) : XSpec Tryz.prog 133 [S s] [] (S r) [] [] := by
  unfold name_Trim at h
  refine X_of_run Tryz.hU Tryz.func133 (fun _ _ _ hB => ?_)
  refine k_seq ?_
  refine k_reg ?_
  refine l_assign ?_
  refine k_nil ?_
  refine f_t ?_
  refine k_seq ?_
  refine k_block ?_
  refine k_loop (fun y1 => ⟨[(0, S y1)], [], []⟩) (fun q5 => (.exit 0, ⟨[(0, S q5)], [], []⟩)) [] hB h (fun y1 t h => ?_) (fun q5 h => ?_)
  · unfold name_Trim_b1 at h
    refine k_seq ?_
    refine k_seq ?_
    refine k_reg ?_
    refine l_move ?_
    refine l_sne ?_
    refine l_move ?_
    refine l_split h (fun _ h => ?_) (fun _ h => ?_)
    · refine l_on ?_
      refine l_move ?_
      refine l_on ?_
      refine l_ats h (fun v2 _ h => ?_)
      refine l_on ?_
      refine l_call h (fun _ => name_Blank_ok) (fun v3 _ h => ?_)
      refine l_pick_true ?_
      refine k_nil ?_
      refine f_t ?_
      refine k_if h (fun _ h => ?_) (fun _ h => ?_)
      · refine k_skip ?_
        refine f_t ?_
        refine k_block ?_
        refine k_reg ?_
        refine l_move ?_
        refine l_subs h (fun v4 _ h => ?_)
        refine l_assign ?_
        refine k_nil ?_
        refine f_b ?_
        exact k_next [] hB h
      refine k_exit ?_
      refine f_te ?_
      exact k_brk [] hB h
    refine l_off ?_
    refine l_off ?_
    refine l_off ?_
    refine l_pick_false ?_
    refine k_nil ?_
    refine f_t ?_
    refine k_f ?_
    refine k_exit ?_
    refine f_te ?_
    exact k_brk [] hB h
  refine f_be ?_
  refine f_t ?_
  refine k_seq ?_
  refine k_block ?_
  refine k_loop (fun y6 => ⟨[(0, S y6)], [], []⟩) (fun q10 => (.exit 2, ⟨[(0, S q10)], [], []⟩)) [] hB h (fun y6 t h => ?_) (fun q10 h => ?_)
  · unfold name_Trim_b2 at h
    refine k_seq ?_
    refine k_seq ?_
    refine k_reg ?_
    refine l_move ?_
    refine l_sne ?_
    refine l_move ?_
    refine l_split h (fun _ h => ?_) (fun _ h => ?_)
    · refine l_on ?_
      refine l_move ?_
      refine l_on ?_
      refine l_move ?_
      refine l_on ?_
      refine l_lens ?_
      refine l_on ?_
      refine l_subw ?_
      refine l_on ?_
      refine l_ats h (fun v7 _ h => ?_)
      refine l_on ?_
      refine l_call h (fun _ => name_Blank_ok) (fun v8 _ h => ?_)
      refine l_pick_true ?_
      refine k_nil ?_
      refine f_t ?_
      refine k_if h (fun _ h => ?_) (fun _ h => ?_)
      · refine k_skip ?_
        refine f_t ?_
        refine k_block ?_
        refine k_reg ?_
        refine l_move ?_
        refine l_move ?_
        refine l_lens ?_
        refine l_subw ?_
        refine l_subs h (fun v9 _ h => ?_)
        refine l_assign ?_
        refine k_nil ?_
        refine f_b ?_
        exact k_next [] hB h
      refine k_exit ?_
      refine f_te ?_
      exact k_brk [] hB h
    refine l_off ?_
    refine l_off ?_
    refine l_off ?_
    refine l_off ?_
    refine l_off ?_
    refine l_off ?_
    refine l_pick_false ?_
    refine k_nil ?_
    refine f_t ?_
    refine k_f ?_
    refine k_exit ?_
    refine f_te ?_
    exact k_brk [] hB h
  refine f_be ?_
  refine f_t ?_
  refine k_seq ?_
  refine k_reg ?_
  refine l_move ?_
  refine l_assign ?_
  refine k_nil ?_
  refine f_t ?_
  refine k_retc ?_
  apply k_ret [] hB h
theorem strings_indexFunc_ok {s : Str} {f : (Int → Option Bool)} {truth : Bool} {fk_f : Nat} {fc_f : List AV} (hf_f : ∀ {x0 : Int} {r : Bool}, f x0 = some r → XSpec Tryz.prog fk_f ((.pl (.int .i32 x0)) :: fc_f) [] (B r) [] []) (hc_f : AV.closedL fc_f = true ∧ AV.onlyL [] fc_f = true) {r : Int} (h : strings_indexFunc s f truth = some r) : XSpec Tryz.prog 242 [S s, .fn (.func fk_f) [] fc_f, B truth] [] (I r) [] [] := by
  unfold strings_indexFunc at h
  refine X_of_run Tryz.hU Tryz.func242 (fun _ _ _ hB => ?_)
  refine k_seq ?_
  refine k_reg ?_
  refine l_assign ?_
  refine k_nil ?_
  refine f_t ?_
  refine k_seq ?_
  refine k_seq ?_
  refine k_reg ?_
  refine l_move ?_
  refine l_range ?_
  refine k_nil ?_
  refine f_t ?_
  refine k_block ?_
  refine k_loop (fun y1 => ⟨[(1, .fn (.func fk_f) [] fc_f), (2, B truth), (10, .it 1010)], [(1010, .siter ⟨s.toArray⟩ y1)], []⟩) (Sum.elim (fun q3 => (.ret, ⟨[(6, I q3)], [], []⟩)) (fun q4 => (.exit 0, ⟨[], [], []⟩))) [(1010, 1010)] hB h (fun y1 t h => ?_) (fun q h => ?_)
  · unfold strings_indexFunc_b1 at h
    refine k_seq ?_
    refine k_reg ?_
    refine l_next h (fun _ h => ?_) (fun _ h => ?_)
    · refine l_extract ?_
      refine k_nil ?_
      refine f_t ?_
      refine k_seq ?_
      refine k_t ?_
      refine k_skip ?_
      refine f_t ?_
      refine k_block ?_
      refine k_seq ?_
      refine k_reg ?_
      refine l_extract ?_
      refine l_extract ?_
      refine l_assign ?_
      refine l_assign ?_
      refine k_nil ?_
      refine f_t ?_
      refine k_seq ?_
      refine k_reg ?_
      refine l_move ?_
      refine l_move ?_
      refine l_callF hc_f h (fun _ => hf_f) (fun v2 _ h => ?_)
      refine l_move ?_
      refine l_bool ?_
      refine k_nil ?_
      refine f_t ?_
      refine k_if h (fun _ h => ?_) (fun _ h => ?_)
      · refine k_seq ?_
        refine k_reg ?_
        refine l_move ?_
        refine l_assign ?_
        refine k_nil ?_
        refine f_t ?_
        refine k_retc ?_
        refine f_br ?_
        exact k_brk [] hB h
      refine k_skip ?_
      refine f_b ?_
      exact k_next [(1010, 1010)] hB h
    refine l_extract ?_
    refine k_nil ?_
    refine f_t ?_
    refine k_seq ?_
    refine k_f ?_
    refine k_exit ?_
    refine f_te ?_
    exact k_brk [] hB h
  rcases q with q3 | q4
  · dsimp only [Sum.elim] at h ⊢
    refine f_br ?_
    refine f_tr ?_
    apply k_ret [] hB h
  dsimp only [Sum.elim] at h ⊢
  refine f_be ?_
  refine f_t ?_
  refine k_seq ?_
  refine k_reg ?_
  refine l_assign ?_
  refine k_nil ?_
  refine f_t ?_
  refine k_retc ?_
  apply k_ret [] hB h
theorem strings_IndexFunc_ok {s : Str} {f : (Int → Option Bool)} {fk_f : Nat} {fc_f : List AV} (hf_f : ∀ {x0 : Int} {r : Bool}, f x0 = some r → XSpec Tryz.prog fk_f ((.pl (.int .i32 x0)) :: fc_f) [] (B r) [] []) (hc_f : AV.closedL fc_f = true ∧ AV.onlyL [] fc_f = true) {r : Int} (h : strings_IndexFunc s f = some r) : XSpec Tryz.prog 216 [S s, .fn (.func fk_f) [] fc_f] [] (I r) [] [] := by
  unfold strings_IndexFunc at h
  refine X_of_run Tryz.hU Tryz.func216 (fun _ _ _ hB => ?_)
  refine k_seq ?_
  refine k_reg ?_
  refine l_assign ?_
  refine k_nil ?_
  refine f_t ?_
  refine k_seq ?_
  refine k_reg ?_
  refine l_move ?_
  refine l_move ?_
  refine l_call h (fun _ => strings_indexFunc_ok (fun h => hf_f h) hc_f) (fun v1 _ h => ?_)
  refine l_assign ?_
  refine k_nil ?_
  refine f_t ?_
  refine k_retc ?_
  apply k_ret [] hB h
theorem value_digits_c1_ok {c : Int} {r : Bool} (h : value_digits_c1 c = some r) : XSpec Tryz.prog 217 [.pl (.int .i32 c)] [] (B r) [] [] := by
  unfold value_digits_c1 at h
  refine X_of_run Tryz.hU Tryz.func217 (fun _ _ _ hB => ?_)
  refine k_seq ?_
  refine k_reg ?_
  refine l_assign ?_
  refine k_nil ?_
  refine f_t ?_
  refine k_seq ?_
  refine k_reg ?_
  refine l_move ?_
  refine l_cmp ?_
  refine l_move ?_
  refine l_split h (fun _ h => ?_) (fun _ h => ?_)
  · refine l_off ?_
    refine l_off ?_
    refine l_pick_true ?_
    refine l_assign ?_
    refine k_nil ?_
    refine f_t ?_
    refine k_retc ?_
    apply k_ret [] hB h
  refine l_on ?_
  refine l_move ?_
  refine l_on ?_
  refine l_cmp ?_
  refine l_pick_false ?_
  refine l_assign ?_
  refine k_nil ?_
  refine f_t ?_
  refine k_retc ?_
  apply k_ret [] hB h
theorem value_digits_ok {s : Str} {r : Bool} (h : value_digits s = some r) : XSpec Tryz.prog 183 [S s] [] (B r) [] [] := by
  unfold value_digits at h
  refine X_of_run Tryz.hU Tryz.func183 (fun _ _ _ hB => ?_)
  refine k_seq ?_
  refine k_reg ?_
  refine l_assign ?_
  refine k_nil ?_
  refine f_t ?_
  refine k_seq ?_
  refine k_reg ?_
  refine l_move ?_
  refine l_call h (fun _ => strings_IndexFunc_ok (fun h => value_digits_c1_ok h) ⟨rfl, rfl⟩) (fun v1 _ h => ?_)
  refine l_cmp ?_
  refine l_assign ?_
  refine k_nil ?_
  refine f_t ?_
  refine k_retc ?_
  apply k_ret [] hB h
theorem value_None_ok {r : TValue} (h : value_None = some r) : XSpec Tryz.prog 143 [] [] (.agg (c_TValue r)) [] [] := by
  unfold value_None at h
  refine X_of_run Tryz.hU Tryz.func143 (fun _ _ _ hB => ?_)
  refine k_seq ?_
  refine k_reg ?_
  refine l_alloc ?_
  refine k_nil ?_
  refine f_t ?_
  refine k_seq ?_
  refine k_reg ?_
  refine l_build ?_
  refine l_store_box ?_
  refine k_nil ?_
  refine f_t ?_
  refine k_retc ?_
  apply k_retN [] hB h
theorem value_Read_ok {s : Str} {r : TValue × Int} (h : value_Read s = some r) : XSpec Tryz.prog 142 [S s] [] (.tup [.agg (c_TValue r.1), I r.2]) [] [] := by
  unfold value_Read at h
  refine X_of_run Tryz.hU Tryz.func142 (fun _ _ _ hB => ?_)
  refine k_seq ?_
  refine k_reg ?_
  refine l_alloc ?_
  refine l_assign ?_
  refine k_nil ?_
  refine f_t ?_
  refine k_seq ?_
  refine k_reg ?_
  refine l_move ?_
  refine l_call h (fun _ => name_Trim_ok) (fun v1 _ h => ?_)
  refine l_assign ?_
  refine k_nil ?_
  refine f_t ?_
  refine k_seq ?_
  refine k_reg ?_
  refine l_move ?_
  refine l_call h (fun _ => strings_CutPrefix_ok) (fun v2 _ h => ?_)
  refine l_move ?_
  refine l_extract ?_
  refine l_extract ?_
  refine l_assign ?_
  refine l_assign ?_
  refine k_nil ?_
  refine f_t ?_
  refine k_seq ?_
  refine k_reg ?_
  refine l_move ?_
  refine l_call h (fun _ => strings_Cut_ok) (fun v3 _ h => ?_)
  refine l_move ?_
  refine l_extract ?_
  refine l_extract ?_
  refine l_extract ?_
  refine l_assign ?_
  refine l_assign ?_
  refine l_assign ?_
  refine k_nil ?_
  refine f_t ?_
  refine k_seq ?_
  refine k_seq ?_
  refine k_cut (fun q6 => (.normal, ⟨[(2, .ptr 1002 0), (5, B v2.2), (6, S v3.1), (7, S v3.2.1), (40, B q6)], [(1002, .box 40 [I 0, .pl (.slice none 0 0), B false, I 0, B false, S []])], []⟩)) h (fun t h => ?_) (fun q6 h => ?_)
  · refine k_reg ?_
    refine l_move ?_
    refine l_call h (fun _ => value_digits_ok) (fun v4 _ h => ?_)
    refine l_un ?_
    refine l_move ?_
    refine l_split h (fun _ h => ?_) (fun _ h => ?_)
    · refine l_off ?_
      refine l_off ?_
      refine l_off ?_
      refine l_pick_true ?_
      refine l_move ?_
      refine l_off ?_
      refine l_off ?_
      refine l_off ?_
      refine l_off ?_
      refine l_off ?_
      refine l_off ?_
      refine l_pick_true ?_
      refine k_nil ?_
      exact k_out [(1002, 1002)] hB h
    refine l_on ?_
    refine l_move ?_
    refine l_on ?_
    refine l_call h (fun _ => value_digits_ok) (fun v5 _ h => ?_)
    refine l_to [(1002, 1002)] ⟨[(2, .ptr 1002 0), (5, B v2.2), (6, S v3.1), (7, S v3.2.1), (28, B false), (30, B v5)], [(1002, .box 40 [I 0, .pl (.slice none 0 0), B false, I 0, B false, S []])], []⟩ hB ?_
    refine l_on ?_
    refine l_un ?_
    refine l_pick_false ?_
    refine l_move ?_
    refine l_split h (fun _ h => ?_) (fun _ h => ?_)
    · refine l_off ?_
      refine l_off ?_
      refine l_off ?_
      refine l_off ?_
      refine l_off ?_
      refine l_off ?_
      refine l_pick_true ?_
      refine k_nil ?_
      exact k_out [(1002, 1002)] hB h
    refine l_on ?_
    refine l_move ?_
    refine l_on ?_
    refine l_seq ?_
    refine l_on ?_
    refine l_move ?_
    refine l_split h (fun _ h => ?_) (fun _ h => ?_)
    · refine l_on ?_
      refine l_move ?_
      refine l_on ?_
      refine l_seq ?_
      refine l_on ?_
      refine l_pick_true ?_
      refine l_pick_false ?_
      refine k_nil ?_
      exact k_out [(1002, 1002)] hB h
    refine l_off ?_
    refine l_off ?_
    refine l_on ?_
    refine l_pick_false ?_
    refine l_pick_false ?_
    refine k_nil ?_
    exact k_out [(1002, 1002)] hB h
  refine f_t ?_
  refine k_if h (fun _ h => ?_) (fun _ h => ?_)
  · refine k_seq ?_
    refine k_reg ?_
    refine l_call h (fun _ => value_None_ok) (fun v7 _ h => ?_)
    refine l_store_box ?_
    refine l_assign ?_
    refine k_nil ?_
    refine f_t ?_
    refine k_retc ?_
    refine f_tr ?_
    apply k_ret [] hB h
  refine k_skip ?_
  refine f_t ?_
  refine k_seq ?_
  refine k_seq ?_
  refine k_reg ?_
  refine l_move ?_
  cases h
theorem value_AsNumber_ok {d : (Option TDoc)} {v_ : TValue} {r : TValue × Int} (h : value_AsNumber d v_ = some r) : XSpec Tryz.prog 144 [oP c_TDoc d, .agg (c_TValue v_)] [] (.tup [.agg (c_TValue r.1), I r.2]) [] [] := by
  unfold value_AsNumber at h
  refine X_of_run Tryz.hU Tryz.func144 (fun _ _ _ hB => ?_)
  refine k_seq ?_
  refine k_reg ?_
  refine l_box ?_
  refine l_alloc ?_
  refine l_assign ?_
  refine k_nil ?_
  refine f_t ?_
  refine k_seq ?_
  refine k_block ?_
  refine k_seq ?_
  refine k_reg ?_
  refine l_fieldAddr ?_
  refine l_load ?_
  refine l_cmp ?_
  refine l_assign ?_
  refine k_nil ?_
  refine f_t ?_
  refine k_if h (fun _ h => ?_) (fun _ h => ?_)
  · refine k_seq ?_
    refine k_reg ?_
    refine l_load_agg ?_
    refine l_store_box ?_
    refine l_assign ?_
    refine k_nil ?_
    refine f_t ?_
    refine k_retc ?_
    refine f_br ?_
    refine f_tr ?_
    apply k_ret [] hB h
  refine k_seq ?_
  refine k_cut (fun q1 => (.normal, ⟨[(0, oP c_TDoc d), (3, .ptr 1003 0), (4, .ptr 1004 0), (11, B q1)], [(1003, .box 40 [I v_.Kind, .vs v_.Set.length (F c_TPoint v_.Set), B v_.Bool_, I v_.N, B v_.NaN, S v_.Text]), (1004, .box 40 [I 0, .pl (.slice none 0 0), B false, I 0, B false, S []])], []⟩)) h (fun t h => ?_) (fun q1 h => ?_)
  · refine k_reg ?_
    refine l_fieldAddr ?_
    refine l_load ?_
    refine l_cmp ?_
    refine l_move ?_
    refine l_split h (fun _ h => ?_) (fun _ h => ?_)
    · refine l_on ?_
      refine l_fieldAddr ?_
      refine l_on ?_
      refine l_load ?_
      refine l_pick_true ?_
      refine l_assign ?_
      refine k_nil ?_
      exact k_out [(1003, 1003), (1004, 1004)] hB h
    refine l_off ?_
    refine l_off ?_
    refine l_pick_false ?_
    refine l_assign ?_
    refine k_nil ?_
    exact k_out [(1003, 1003), (1004, 1004)] hB h
  refine f_t ?_
  refine k_if h (fun _ h => ?_) (fun _ h => ?_)
  · refine k_seq ?_
    refine k_reg ?_
    refine l_call h (fun _ => value_OfNumber_ok) (fun v2 _ h => ?_)
    refine l_extract ?_
    refine l_extract ?_
    refine l_store_box ?_
    refine l_assign ?_
    refine k_nil ?_
    refine f_t ?_
    refine k_retc ?_
    refine f_br ?_
    refine f_tr ?_
    apply k_ret [] hB h
  refine k_seq ?_
  refine k_reg ?_
  refine l_fieldAddr ?_
  refine l_load ?_
  refine l_cmp ?_
  refine l_assign ?_
  refine k_nil ?_
  refine f_t ?_
  refine k_if h (fun _ h => ?_) (fun _ h => ?_)
  · refine k_seq ?_
    refine k_reg ?_
    refine l_call h (fun _ => value_OfNumber_ok) (fun v3 _ h => ?_)
    refine l_extract ?_
    refine l_extract ?_
    refine l_store_box ?_
    refine l_assign ?_
    refine k_nil ?_
    refine f_t ?_
    refine k_retc ?_
    refine f_br ?_
    refine f_tr ?_
    apply k_ret [] hB h
  refine k_seq ?_
  refine k_reg ?_
  refine l_fieldAddr ?_
  refine l_load ?_
  refine l_cmp ?_
  refine l_move ?_
  refine l_split h (fun _ h => ?_) (fun _ h => ?_)
  · refine l_off ?_
    refine l_off ?_
    refine l_off ?_
    refine l_pick_true ?_
    refine l_assign ?_
    refine k_nil ?_
    refine f_t ?_
    refine k_t ?_
    refine k_seq ?_
    refine k_reg ?_
    refine l_move ?_
    refine l_load_agg ?_
    refine l_call h (fun _ => value_AsText_ok) (fun v4 _ h => ?_)
    refine l_call h (fun _ => value_Read_ok) (fun v5 _ h => ?_)
    refine l_extract ?_
    refine l_extract ?_
    refine l_store_box ?_
    refine l_assign ?_
    refine k_nil ?_
    refine f_t ?_
    refine k_retc ?_
    refine f_br ?_
    refine f_tr ?_
    apply k_ret [] hB h
  refine l_on ?_
  refine l_fieldAddr ?_
  refine l_on ?_
  refine l_load ?_
  refine l_on ?_
  refine l_cmp ?_
  refine l_pick_false ?_
  refine l_assign ?_
  refine k_nil ?_
  refine f_t ?_
  refine k_if h (fun _ h => ?_) (fun _ h => ?_)
  · refine k_seq ?_
    refine k_reg ?_
    refine l_move ?_
    refine l_load_agg ?_
    refine l_call h (fun _ => value_AsText_ok) (fun v6 _ h => ?_)
    refine l_call h (fun _ => value_Read_ok) (fun v7 _ h => ?_)
    refine l_extract ?_
    refine l_extract ?_
    refine l_store_box ?_
    refine l_assign ?_
    refine k_nil ?_
    refine f_t ?_
    refine k_retc ?_
    refine f_br ?_
    refine f_tr ?_
    apply k_ret [] hB h
  refine k_skip ?_
  refine f_b ?_
  refine f_t ?_
  refine k_seq ?_
  refine k_reg ?_
  refine l_call h (fun _ => value_None_ok) (fun v8 _ h => ?_)
  refine l_store_box ?_
  refine l_assign ?_
  refine k_nil ?_
  refine f_t ?_
  refine k_retc ?_
  apply k_ret [] hB h
theorem call_caller_number_ok {c : TCaller} {n : Int} {r : TValue × Int} (h : call_caller_number c n = some r) : XSpec Tryz.prog 101 [.agg (c_TCaller c), I n] [] (.tup [.agg (c_TValue r.1), I r.2]) [] [] := by
  unfold call_caller_number at h
  refine X_of_run Tryz.hU Tryz.func101 (fun _ _ _ hB => ?_)
  refine k_seq ?_
  refine k_reg ?_
  refine l_box ?_
  refine l_alloc ?_
  refine l_assign ?_
  refine k_nil ?_
  refine f_t ?_
  refine k_seq ?_
  refine k_seq ?_
  refine k_reg ?_
  refine l_move ?_
  refine l_fieldAddr ?_
  refine l_load ?_
  refine l_len ?_
  refine l_cmp ?_
  refine k_nil ?_
  refine f_t ?_
  refine k_if h (fun _ h => ?_) (fun _ h => ?_)
  · refine k_seq ?_
    refine k_reg ?_
    refine l_load_agg ?_
    refine l_move ?_
    refine l_call h (fun _ => call_caller_text_ok) (fun v1 _ h => ?_)
    refine l_call h (fun _ => value_Read_ok) (fun v2 _ h => ?_)
    refine l_extract ?_
    refine l_extract ?_
    refine l_store_box ?_
    refine l_assign ?_
    refine k_nil ?_
    refine f_t ?_
    refine k_retc ?_
    refine f_tr ?_
    apply k_ret [] hB h
  refine k_skip ?_
  refine f_t ?_
  refine k_seq ?_
  refine k_mix [13] (.q 0 (.q 1 (.q 2 (.q 3 (.q 4 (.q 5 (.q 6 (.q 7 (.q 8 (.q 9 (.e 10 (.q 11 (.q 12 (.e 13 (.q 14 (.done)))))))))))))))) hm ?_
  refine gq ?_
  refine n_fieldAddr ?_
  refine gq ?_
  refine n_load ?_
  refine gq ?_
  refine n_deref h (fun v3 _ h => ?_)
  refine gq ?_
  refine n_fieldAddr ?_
  refine gq ?_
  refine n_load ?_
  refine gq ?_
  refine n_fieldAddr ?_
  refine gq ?_
  refine n_load ?_
  refine gq ?_
  refine n_move ?_
  refine gq ?_
  refine n_at h (fun v4 _ h => ?_)
  refine gq ?_
  refine n_load_agg ?_
  refine ge ?_
  refine n_call h (fun _ => value_AsNumber_ok) (fun v5 _ h => ?_)
  refine gq ?_
  refine n_extract ?_
  refine gq ?_
  refine n_extract ?_
  refine ge ?_
  refine n_store_box ?_
  refine gq ?_
  refine n_assign ?_
  refine m_nil ?_
  refine f_t ?_
  refine k_retc ?_
  apply k_ret [] hB h
theorem call_caller_substring_ok {c : TCaller} {r : TValue × Int} (h : call_caller_substring c = some r) : XSpec Tryz.prog 96 [.agg (c_TCaller c)] [] (.tup [.agg (c_TValue r.1), I r.2]) [] [] := by
  unfold call_caller_substring at h
  refine X_of_run Tryz.hU Tryz.func96 (fun _ _ _ hB => ?_)
  refine k_seq ?_
  refine k_reg ?_
  refine l_box ?_
  refine l_alloc ?_
  refine l_assign ?_
  refine k_nil ?_
  refine f_t ?_
  refine k_seq ?_
  refine k_reg ?_
  refine l_load_agg ?_
  refine l_call h (fun _ => call_caller_number_ok) (fun v1 _ h => ?_)
  refine l_move ?_
  refine l_extract ?_
  refine l_extract ?_
  refine l_alloc ?_
  refine l_store_box ?_
  refine l_assign ?_
  refine k_nil ?_
  refine f_t ?_
  refine k_seq ?_
  refine k_seq ?_
  refine k_reg ?_
  refine l_move ?_
  refine l_cmp ?_
  refine k_nil ?_
  refine f_t ?_
  refine k_if h (fun _ h => ?_) (fun _ h => ?_)
  · refine k_seq ?_
    refine k_reg ?_
    refine l_build ?_
    refine l_move ?_
    refine l_store_box ?_
    refine l_assign ?_
    refine k_nil ?_
    refine f_t ?_
    refine k_retc ?_
    refine f_tr ?_
    apply k_retN [] hB h
  refine k_skip ?_
  refine f_t ?_
  refine k_seq ?_
  refine k_reg ?_
  refine l_load_agg ?_
  refine l_call h (fun _ => call_caller_text_ok) (fun v2 _ h => ?_)
  refine l_runes h (fun v3 _ h => ?_)
  refine l_assign ?_
  refine k_nil ?_
  refine f_t ?_
  refine k_seq ?_
  refine k_reg ?_
  refine l_fieldAddr ?_
  refine l_load ?_
  refine l_move ?_
  refine l_len ?_
  refine l_addw ?_
  refine l_assign ?_
  refine l_assign ?_
  refine k_nil ?_
  refine f_t ?_
  refine k_seq ?_
  refine k_reg ?_
  refine l_fieldAddr ?_
  refine l_load ?_
  refine l_assign ?_
  refine k_nil ?_
  refine f_t ?_
  refine k_seq ?_
  refine k_seq ?_
  refine k_reg ?_
  refine l_fieldAddr ?_
  refine l_load ?_
  refine l_len ?_
  refine l_cmp ?_
  refine k_nil ?_
  refine f_t ?_
  refine k_if h (fun _ h => ?_) (fun _ h => ?_)
  · refine k_seq ?_
    refine k_reg ?_
    refine l_load_agg ?_
    refine l_call h (fun _ => call_caller_number_ok) (fun v4 _ h => ?_)
    refine l_move ?_
    refine l_extract ?_
    refine l_extract ?_
    refine l_alloc ?_
    refine l_store_box ?_
    refine l_assign ?_
    refine k_nil ?_
    refine f_t ?_
    refine k_seq ?_
    refine k_seq ?_
    refine k_reg ?_
    refine l_move ?_
    refine l_cmp ?_
    refine k_nil ?_
    refine f_t ?_
    refine k_if h (fun _ h => ?_) (fun _ h => ?_)
    · refine k_seq ?_
      refine k_reg ?_
      refine l_build ?_
      refine l_move ?_
      refine l_store_box ?_
      refine l_assign ?_
      refine k_nil ?_
      refine f_t ?_
      refine k_retc ?_
      refine f_tr ?_
      refine f_tr ?_
      apply k_retN [] hB h
    refine k_skip ?_
    refine f_t ?_
    refine k_seq ?_
    refine k_cut (fun q5 => (.normal, ⟨[(2, .ptr 1002 0), (6, .sl 1023 0 v3.length), (7, I v1.1.N), (8, I (w64 ((v3.length : Int) + 1))), (9, B q5), (10, .ptr 1010 0)], [(1002, .box 40 [I 0, .pl (.slice none 0 0), B false, I 0, B false, S []]), (1023, .row 21 1 0 (F cR v3)), (1010, .box 40 [I v4.1.Kind, .vs v4.1.Set.length (F c_TPoint v4.1.Set), B v4.1.Bool_, I v4.1.N, B v4.1.NaN, S v4.1.Text])], []⟩)) h (fun t h => ?_) (fun q5 h => ?_)
    · refine k_reg ?_
      refine l_move ?_
      refine l_move ?_
      refine l_split h (fun _ h => ?_) (fun _ h => ?_)
      · refine l_off ?_
        refine l_off ?_
        refine l_pick_true ?_
        refine l_assign ?_
        refine k_nil ?_
        exact k_out [(1002, 1002), (1023, 1023), (1010, 1010)] hB h
      refine l_on ?_
      refine l_fieldAddr ?_
      refine l_on ?_
      refine l_load ?_
      refine l_pick_false ?_
      refine l_assign ?_
      refine k_nil ?_
      exact k_out [(1002, 1002), (1023, 1023), (1010, 1010)] hB h
    refine f_t ?_
    refine k_reg ?_
    refine l_move ?_
    refine l_move ?_
    refine l_fieldAddr ?_
    refine l_load ?_
    refine l_addw ?_
    refine l_min2 ?_
    refine l_assign ?_
    refine k_nil ?_
    refine f_t ?_
    refine k_seq ?_
    refine k_reg ?_
    refine l_move ?_
    refine l_max2 ?_
    refine l_assign ?_
    refine k_nil ?_
    refine f_t ?_
    refine k_seq ?_
    refine k_seq ?_
    refine k_reg ?_
    refine l_move ?_
    refine l_move ?_
    refine l_split h (fun _ h => ?_) (fun _ h => ?_)
    · refine l_off ?_
      refine l_off ?_
      refine l_off ?_
      refine l_pick_true ?_
      refine k_nil ?_
      refine f_t ?_
      refine k_t ?_
      refine k_seq ?_
      refine k_reg ?_
      refine l_call h (fun _ => value_OfText_ok) (fun v6 _ h => ?_)
      refine l_store_box ?_
      refine l_assign ?_
      refine k_nil ?_
      refine f_t ?_
      refine k_retc ?_
      refine f_tr ?_
      apply k_ret [] hB h
    refine l_on ?_
    refine l_move ?_
    refine l_on ?_
    refine l_move ?_
    refine l_on ?_
    refine l_cmp ?_
    refine l_pick_false ?_
    refine k_nil ?_
    refine f_t ?_
    refine k_if h (fun _ h => ?_) (fun _ h => ?_)
    · refine k_seq ?_
      refine k_reg ?_
      refine l_call h (fun _ => value_OfText_ok) (fun v7 _ h => ?_)
      refine l_store_box ?_
      refine l_assign ?_
      refine k_nil ?_
      refine f_t ?_
      refine k_retc ?_
      refine f_tr ?_
      apply k_ret [] hB h
    refine k_skip ?_
    refine f_t ?_
    refine k_seq ?_
    refine k_reg ?_
    refine l_move ?_
    refine l_move ?_
    refine l_subw ?_
    refine l_move ?_
    refine l_subw ?_
    refine l_sub0 h (fun h => ?_)
    refine l_rstrp h (fun v8 _ h => ?_)
    refine l_call h (fun _ => value_OfText_ok) (fun v9 _ h => ?_)
    refine l_store_box ?_
    refine l_assign ?_
    refine k_nil ?_
    refine f_t ?_
    refine k_retc ?_
    apply k_ret [] hB h
  refine k_skip ?_
  refine f_t ?_
  refine k_seq ?_
  refine k_reg ?_
  refine l_move ?_
  refine l_max2 ?_
  refine l_assign ?_
  refine k_nil ?_
  refine f_t ?_
  refine k_seq ?_
  refine k_seq ?_
  refine k_reg ?_
  refine l_move ?_
  refine l_move ?_
  refine l_split h (fun _ h => ?_) (fun _ h => ?_)
  · refine l_off ?_
    refine l_off ?_
    refine l_off ?_
    refine l_pick_true ?_
    refine k_nil ?_
    refine f_t ?_
    refine k_t ?_
    refine k_seq ?_
    refine k_reg ?_
    refine l_call h (fun _ => value_OfText_ok) (fun v10 _ h => ?_)
    refine l_store_box ?_
    refine l_assign ?_
    refine k_nil ?_
    refine f_t ?_
    refine k_retc ?_
    refine f_tr ?_
    apply k_ret [] hB h
  refine l_on ?_
  refine l_move ?_
  refine l_on ?_
  refine l_move ?_
  refine l_on ?_
  refine l_cmp ?_
  refine l_pick_false ?_
  refine k_nil ?_
  refine f_t ?_
  refine k_if h (fun _ h => ?_) (fun _ h => ?_)
  · refine k_seq ?_
    refine k_reg ?_
    refine l_call h (fun _ => value_OfText_ok) (fun v11 _ h => ?_)
    refine l_store_box ?_
    refine l_assign ?_
    refine k_nil ?_
    refine f_t ?_
    refine k_retc ?_
    refine f_tr ?_
    apply k_ret [] hB h
  refine k_skip ?_
  refine f_t ?_
  refine k_seq ?_
  refine k_reg ?_
  refine l_move ?_
  refine l_move ?_
  refine l_subw ?_
  refine l_move ?_
  refine l_subw ?_
  refine l_sub0 h (fun h => ?_)
  refine l_rstrp h (fun v12 _ h => ?_)
  refine l_call h (fun _ => value_OfText_ok) (fun v13 _ h => ?_)
  refine l_store_box ?_
  refine l_assign ?_
  refine k_nil ?_
  refine f_t ?_
  refine k_retc ?_
  apply k_ret [] hB h
theorem value_OfTruth_ok {b : Bool} {r : TValue} (h : value_OfTruth b = some r) : XSpec Tryz.prog 97 [B b] [] (.agg (c_TValue r)) [] [] := by
  unfold value_OfTruth at h
  refine X_of_run Tryz.hU Tryz.func97 (fun _ _ _ hB => ?_)
  refine k_seq ?_
  refine k_reg ?_
  refine l_alloc ?_
  refine k_nil ?_
  refine f_t ?_
  refine k_seq ?_
  refine k_reg ?_
  refine l_move ?_
  refine l_build ?_
  refine l_store_box ?_
  refine k_nil ?_
  refine f_t ?_
  refine k_retc ?_
  apply k_retN [] hB h
theorem strings_FieldsFunc_ok {s : Str} {f : (Int → Option Bool)} {fk_f : Nat} {fc_f : List AV} (hf_f : ∀ {x0 : Int} {r : Bool}, f x0 = some r → XSpec Tryz.prog fk_f ((.pl (.int .i32 x0)) :: fc_f) [] (B r) [] []) (hc_f : AV.closedL fc_f = true ∧ AV.onlyL [] fc_f = true) {r : (List Str)} (h : strings_FieldsFunc s f = some r) : XSpec Tryz.prog 185 [S s, .fn (.func fk_f) [] fc_f] [] (.sl 1 0 r.length) [(1, .row 9 1 0 (F cS r))] [] := by
  unfold strings_FieldsFunc at h
  refine X_of_run Tryz.hU Tryz.func185 (fun _ _ _ hB => ?_)
  refine k_seq ?_
  refine k_reg ?_
  refine l_assign ?_
  refine k_nil ?_
  refine f_t ?_
  refine k_seq ?_
  refine k_reg ?_
  refine l_room ?_
  refine l_assign ?_
  refine k_nil ?_
  refine f_t ?_
  refine k_seq ?_
  refine k_reg ?_
  refine l_assign ?_
  refine k_nil ?_
  refine f_t ?_
  refine k_seq ?_
  refine k_seq ?_
  refine k_reg ?_
  refine l_move ?_
  refine l_range ?_
  refine k_nil ?_
  refine f_t ?_
  refine k_block ?_
  refine k_loop (fun y1 => ⟨[(0, S s), (1, .fn (.func fk_f) [] fc_f), (5, .sl 1012 0 y1.2.1.length), (6, I y1.1), (14, .it 1014)], [(1012, .row 230 2 0 (F c_TSpan2 y1.2.1)), (1014, .siter ⟨s.toArray⟩ y1.2.2)], []⟩) (fun q4 => (.exit 0, ⟨[(0, S s), (5, .sl 1012 0 q4.2.length), (6, I q4.1)], [(1012, .row 230 2 0 (F c_TSpan2 q4.2))], []⟩)) [(1012, 1012), (1014, 1014)] hB h (fun y1 t h => ?_) (fun q4 h => ?_)
  · unfold strings_FieldsFunc_b1 at h
    refine k_seq ?_
    refine k_reg ?_
    refine l_next h (fun _ h => ?_) (fun _ h => ?_)
    · refine l_extract ?_
      refine k_nil ?_
      refine f_t ?_
      refine k_seq ?_
      refine k_t ?_
      refine k_skip ?_
      refine f_t ?_
      refine k_block ?_
      refine k_seq ?_
      refine k_reg ?_
      refine l_extract ?_
      refine l_extract ?_
      refine l_assign ?_
      refine l_assign ?_
      refine k_nil ?_
      refine f_t ?_
      refine k_seq ?_
      refine k_reg ?_
      refine l_move ?_
      refine l_move ?_
      refine l_callF hc_f h (fun _ => hf_f) (fun v2 _ h => ?_)
      refine k_nil ?_
      refine f_t ?_
      refine k_if h (fun _ h => ?_) (fun _ h => ?_)
      · refine k_seq ?_
        refine k_reg ?_
        refine l_move ?_
        refine l_cmp ?_
        refine k_nil ?_
        refine f_t ?_
        refine k_if h (fun _ h => ?_) (fun _ h => ?_)
        · refine k_seq ?_
          refine k_reg ?_
          refine l_move ?_
          refine l_move ?_
          refine l_move ?_
          refine l_build ?_
          refine l_lit (e := c_TSpan2) [(TSpan2.mk y1.1 (y1.2.2 : Int))] ?_
          refine l_appo h (fun v3 _ h => ?_)
          refine l_assign ?_
          refine k_nil ?_
          refine f_t ?_
          refine k_reg ?_
          refine l_move ?_
          refine l_com ?_
          refine l_assign ?_
          refine k_nil ?_
          refine f_b ?_
          exact k_next [(1012, 1012), (1014, 1014)] hB h
        refine k_skip ?_
        refine f_b ?_
        exact k_next [(1012, 1012), (1014, 1014)] hB h
      refine k_seq ?_
      refine k_reg ?_
      refine l_move ?_
      refine l_cmp ?_
      refine k_nil ?_
      refine f_t ?_
      refine k_if h (fun _ h => ?_) (fun _ h => ?_)
      · refine k_reg ?_
        refine l_move ?_
        refine l_assign ?_
        refine k_nil ?_
        refine f_b ?_
        exact k_next [(1012, 1012), (1014, 1014)] hB h
      refine k_skip ?_
      refine f_b ?_
      exact k_next [(1012, 1012), (1014, 1014)] hB h
    refine l_extract ?_
    refine k_nil ?_
    refine f_t ?_
    refine k_seq ?_
    refine k_f ?_
    refine k_exit ?_
    refine f_te ?_
    exact k_brk [(1012, 1012)] hB h
  refine f_be ?_
  refine f_t ?_
  refine k_seq ?_
  refine k_seq ?_
  refine k_reg ?_
  refine l_move ?_
  refine l_cmp ?_
  refine k_nil ?_
  refine f_t ?_
  refine k_if h (fun _ h => ?_) (fun _ h => ?_)
  · refine k_reg ?_
    refine l_move ?_
    refine l_move ?_
    refine l_move ?_
    refine l_lens ?_
    refine l_build ?_
    refine l_lit (e := c_TSpan2) [(TSpan2.mk q4.1 (s.length : Int))] ?_
    refine l_appo h (fun v5 _ h => ?_)
    refine l_assign ?_
    refine k_nil ?_
    refine f_t ?_
    refine k_seq ?_
    refine k_reg ?_
    refine l_move ?_
    refine l_len ?_
    refine l_make (e := cS) (z := []) h (fun v6 ev6 h => ?_)
    refine l_assign ?_
    refine k_nil ?_
    refine f_t ?_
    refine k_seq ?_
    refine k_seq ?_
    refine k_reg ?_
    refine l_move ?_
    refine l_len ?_
    refine l_move ?_
    refine k_nil ?_
    refine f_t ?_
    refine k_block ?_
    refine k_loop (fun y7 => ⟨[(0, S s), (9, .sl 1046 0 y7.2.length), (47, .sl 1012 0 v5.length), (48, I (v5.length : Int)), (49, I y7.1)], [(1046, .row 9 1 0 (F cS y7.2)), (1012, .row 230 2 0 (F c_TSpan2 v5))], [1012]⟩) (fun q12 => (.exit 2, ⟨[(9, .sl 1046 0 q12.length)], [(1046, .row 9 1 0 (F cS q12))], [1012]⟩)) [(1046, 1046), (1012, 1012)] hB h (fun y7 t h => ?_) (fun q12 h => ?_)
    · unfold strings_FieldsFunc_b2 at h
      refine k_seq ?_
      refine k_reg ?_
      refine l_cmp ?_
      refine k_nil ?_
      refine f_t ?_
      refine k_seq ?_
      refine k_if h (fun _ h => ?_) (fun _ h => ?_)
      · refine k_skip ?_
        refine f_t ?_
        refine k_seq ?_
        refine k_block ?_
        refine k_seq ?_
        refine k_reg ?_
        refine l_move ?_
        refine l_ato h (fun v8 ev8 h => ?_)
        refine l_ldra ev8 ?_
        refine l_alloc ?_
        refine l_assign ?_
        refine l_store_box ?_
        refine k_nil ?_
        refine f_t ?_
        refine k_reg ?_
        refine l_move ?_
        refine l_move ?_
        refine l_move ?_
        refine l_fieldAddr ?_
        refine l_load ?_
        refine l_fieldAddr ?_
        refine l_load ?_
        refine l_subs h (fun v9 _ h => ?_)
        refine l_ato h (fun v10 ev10 h => ?_)
        refine l_put0 ev10 h (fun v11 ev11 h => ?_)
        refine k_nil ?_
        refine f_b ?_
        refine f_t ?_
        refine k_reg ?_
        refine l_addw ?_
        refine l_move ?_
        refine k_nil ?_
        refine f_relen 9 v11.length ?_
        exact k_next [(1046, 1046), (1012, 1012)] hB h
      refine k_exit ?_
      refine f_te ?_
      exact k_brk [(1046, 1046)] hB h
    refine f_be ?_
    refine f_t ?_
    refine k_seq ?_
    refine k_reg ?_
    refine l_move ?_
    refine l_assign ?_
    refine k_nil ?_
    refine f_t ?_
    refine k_retc ?_
    apply k_ret [(1046, 1)] hB h
  refine k_skip ?_
  refine f_t ?_
  refine k_seq ?_
  refine k_reg ?_
  refine l_move ?_
  refine l_len ?_
  refine l_make (e := cS) (z := []) h (fun v13 ev13 h => ?_)
  refine l_assign ?_
  refine k_nil ?_
  refine f_t ?_
  refine k_seq ?_
  refine k_seq ?_
  refine k_reg ?_
  refine l_move ?_
  refine l_len ?_
  refine l_move ?_
  refine k_nil ?_
  refine f_t ?_
  refine k_block ?_
  refine k_loop (fun y14 => ⟨[(0, S s), (9, .sl 1046 0 y14.2.length), (47, .sl 1012 0 q4.2.length), (48, I (q4.2.length : Int)), (49, I y14.1)], [(1046, .row 9 1 0 (F cS y14.2)), (1012, .row 230 2 0 (F c_TSpan2 q4.2))], []⟩) (fun q19 => (.exit 2, ⟨[(9, .sl 1046 0 q19.length)], [(1046, .row 9 1 0 (F cS q19))], []⟩)) [(1046, 1046), (1012, 1012)] hB h (fun y14 t h => ?_) (fun q19 h => ?_)
  · unfold strings_FieldsFunc_b3 at h
    refine k_seq ?_
    refine k_reg ?_
    refine l_cmp ?_
    refine k_nil ?_
    refine f_t ?_
    refine k_seq ?_
    refine k_if h (fun _ h => ?_) (fun _ h => ?_)
    · refine k_skip ?_
      refine f_t ?_
      refine k_seq ?_
      refine k_block ?_
      refine k_seq ?_
      refine k_reg ?_
      refine l_move ?_
      refine l_ato h (fun v15 ev15 h => ?_)
      refine l_ldra ev15 ?_
      refine l_alloc ?_
      refine l_assign ?_
      refine l_store_box ?_
      refine k_nil ?_
      refine f_t ?_
      refine k_reg ?_
      refine l_move ?_
      refine l_move ?_
      refine l_move ?_
      refine l_fieldAddr ?_
      refine l_load ?_
      refine l_fieldAddr ?_
      refine l_load ?_
      refine l_subs h (fun v16 _ h => ?_)
      refine l_ato h (fun v17 ev17 h => ?_)
      refine l_put0 ev17 h (fun v18 ev18 h => ?_)
      refine k_nil ?_
      refine f_b ?_
      refine f_t ?_
      refine k_reg ?_
      refine l_addw ?_
      refine l_move ?_
      refine k_nil ?_
      refine f_relen 9 v18.length ?_
      exact k_next [(1046, 1046), (1012, 1012)] hB h
    refine k_exit ?_
    refine f_te ?_
    exact k_brk [(1046, 1046)] hB h
  refine f_be ?_
  refine f_t ?_
  refine k_seq ?_
  refine k_reg ?_
  refine l_move ?_
  refine l_assign ?_
  refine k_nil ?_
  refine f_t ?_
  refine k_retc ?_
  apply k_ret [(1046, 1)] hB h
theorem call_words_c1_ok {c : Int} {r : Bool} (h : call_words_c1 c = some r) : XSpec Tryz.prog 186 [.pl (.int .i32 c)] [] (B r) [] [] := by
  unfold call_words_c1 at h
  refine X_of_run Tryz.hU Tryz.func186 (fun _ _ _ hB => ?_)
  refine k_seq ?_
  refine k_reg ?_
  refine l_assign ?_
  refine k_nil ?_
  refine f_t ?_
  refine k_seq ?_
  refine k_reg ?_
  refine l_move ?_
  refine l_cmp ?_
  refine l_move ?_
  refine l_split h (fun _ h => ?_) (fun _ h => ?_)
  · refine l_on ?_
    refine l_move ?_
    refine l_on ?_
    refine l_convU ?_
    refine l_on ?_
    refine l_call h (fun _ => name_Blank_ok) (fun v1 _ h => ?_)
    refine l_pick_true ?_
    refine l_assign ?_
    refine k_nil ?_
    refine f_t ?_
    refine k_retc ?_
    apply k_ret [] hB h
  refine l_off ?_
  refine l_off ?_
  refine l_off ?_
  refine l_pick_false ?_
  refine l_assign ?_
  refine k_nil ?_
  refine f_t ?_
  refine k_retc ?_
  apply k_ret [] hB h
theorem call_words_ok {s : Str} {r : (List Str)} (h : call_words s = some r) : XSpec Tryz.prog 147 [S s] [] (.sl 1 0 r.length) [(1, .row 9 1 0 (F cS r))] [] := by
  unfold call_words at h
  refine X_of_run Tryz.hU Tryz.func147 (fun _ _ _ hB => ?_)
  refine k_seq ?_
  refine k_reg ?_
  refine l_assign ?_
  refine k_nil ?_
  refine f_t ?_
  refine k_seq ?_
  refine k_reg ?_
  refine l_move ?_
  refine l_callX [(1, 100401)] [] h (fun _ => strings_FieldsFunc_ok (fun h => call_words_c1_ok h) ⟨rfl, rfl⟩) (fun v1 _ h => ?_)
  refine l_assign ?_
  refine k_nil ?_
  refine f_t ?_
  refine k_retc ?_
  apply k_ret [(100401, 1)] hB h
theorem strings_Join_ok {elems : (List Str)} {sep : Str} {r : Str} (h : strings_Join elems sep = some r) : XSpec Tryz.prog 146 [.vs elems.length (F cS elems), S sep] [] (S r) [] [] := by
  unfold strings_Join at h
  refine X_of_run Tryz.hU Tryz.func146 (fun _ _ _ hB => ?_)
  refine k_seq ?_
  refine k_reg ?_
  refine l_assign ?_
  refine k_nil ?_
  refine f_t ?_
  refine k_seq ?_
  refine k_seq ?_
  refine k_reg ?_
  refine l_move ?_
  refine l_len ?_
  refine k_nil ?_
  refine f_t ?_
  refine k_block ?_
  refine k_seq ?_
  refine k_reg ?_
  refine l_cmp ?_
  refine l_assign ?_
  refine k_nil ?_
  refine f_t ?_
  refine k_if h (fun _ h => ?_) (fun _ h => ?_)
  · refine k_seq ?_
    refine k_reg ?_
    refine l_assign ?_
    refine k_nil ?_
    refine f_t ?_
    refine k_retc ?_
    refine f_br ?_
    refine f_tr ?_
    apply k_ret [] hB h
  refine k_seq ?_
  refine k_reg ?_
  refine l_cmp ?_
  refine l_assign ?_
  refine k_nil ?_
  refine f_t ?_
  refine k_if h (fun _ h => ?_) (fun _ h => ?_)
  · refine k_seq ?_
    refine k_reg ?_
    refine l_move ?_
    refine l_at h (fun v1 _ h => ?_)
    refine l_load ?_
    refine l_assign ?_
    refine k_nil ?_
    refine f_t ?_
    refine k_retc ?_
    refine f_br ?_
    refine f_tr ?_
    apply k_ret [] hB h
  refine k_skip ?_
  refine f_b ?_
  refine f_t ?_
  refine k_seq ?_
  refine k_reg ?_
  refine l_assign ?_
  refine k_nil ?_
  refine f_t ?_
  refine k_seq ?_
  refine k_seq ?_
  refine k_reg ?_
  refine l_move ?_
  refine l_lens ?_
  refine l_cmp ?_
  refine k_nil ?_
  refine f_t ?_
  refine k_if h (fun _ h => ?_) (fun _ h => ?_)
  · refine k_seq ?_
    refine k_seq ?_
    refine k_reg ?_
    refine l_move ?_
    refine l_lens ?_
    refine l_move ?_
    refine l_len ?_
    refine l_subw ?_
    refine l_quoV h (fun v2 _ h => ?_)
    refine l_cmp ?_
    refine k_nil ?_
    refine f_t ?_
    refine k_if h (fun _ h => ?_) (fun _ h => ?_)
    · refine k_reg ?_
      cases h
    refine k_skip ?_
    refine f_t ?_
    refine k_reg ?_
    refine l_move ?_
    refine l_move ?_
    refine l_lens ?_
    refine l_move ?_
    refine l_len ?_
    refine l_subw ?_
    refine l_mulw ?_
    refine l_addw ?_
    refine l_assign ?_
    refine k_nil ?_
    refine f_t ?_
    refine k_seq ?_
    refine k_seq ?_
    refine k_reg ?_
    refine l_move ?_
    refine l_len ?_
    refine l_move ?_
    refine k_nil ?_
    refine f_t ?_
    refine k_block ?_
    refine k_loop (fun y3 => ⟨[(0, .vs elems.length (F cS elems)), (1, S sep), (5, I y3.1), (39, .vs elems.length (F cS elems)), (40, I (elems.length : Int)), (41, I y3.2)], [], []⟩) (fun q5 => (.exit 1, ⟨[(0, .vs elems.length (F cS elems)), (1, S sep), (5, I q5)], [], []⟩)) [] hB h (fun y3 t h => ?_) (fun q5 h => ?_)
    · unfold strings_Join_b1 at h
      refine k_seq ?_
      refine k_reg ?_
      refine l_cmp ?_
      refine k_nil ?_
      refine f_t ?_
      refine k_seq ?_
      refine k_if h (fun _ h => ?_) (fun _ h => ?_)
      · refine k_skip ?_
        refine f_t ?_
        refine k_seq ?_
        refine k_block ?_
        refine k_seq ?_
        refine k_reg ?_
        refine l_at h (fun v4 _ h => ?_)
        refine l_load ?_
        refine l_assign ?_
        refine k_nil ?_
        refine f_t ?_
        refine k_seq ?_
        refine k_seq ?_
        refine k_reg ?_
        refine l_move ?_
        refine l_lens ?_
        refine l_move ?_
        refine l_subw ?_
        refine l_cmp ?_
        refine k_nil ?_
        refine f_t ?_
        refine k_if h (fun _ h => ?_) (fun _ h => ?_)
        · refine k_reg ?_
          cases h
        refine k_skip ?_
        refine f_t ?_
        refine k_reg ?_
        refine l_move ?_
        refine l_move ?_
        refine l_lens ?_
        refine l_addw ?_
        refine l_assign ?_
        refine k_nil ?_
        refine f_b ?_
        refine f_t ?_
        refine k_reg ?_
        refine l_addw ?_
        refine l_move ?_
        refine k_nil ?_
        exact k_next [] hB h
      refine k_exit ?_
      refine f_te ?_
      exact k_brk [] hB h
    refine f_be ?_
    refine f_t ?_
    refine k_seq ?_
    refine k_reg ?_
    refine l_alloc ?_
    refine k_nil ?_
    refine f_t ?_
    refine k_seq ?_
    refine k_reg ?_
    refine l_move ?_
    refine l_npcell (b := 1008) (j := 0) 1008 0 ?_
    refine l_callX [(1000101, 1008), (1000151, 105751)] [1008] h (fun _ => strings_Builder_Grow_s1_ok) (fun v6 _ h => ?_)
    refine k_nil ?_
    refine f_t ?_
    refine k_seq ?_
    refine k_reg ?_
    refine l_move ?_
    refine l_at h (fun v7 _ h => ?_)
    refine l_load ?_
    refine l_callX [(4000101, 1008), (4000102, 105751)] [1008, 105751] h (fun _ => strings_Builder_WriteString_s4_ok) (fun v8 _ h => ?_)
    refine k_nil ?_
    refine f_t ?_
    refine k_seq ?_
    refine k_seq ?_
    refine k_reg ?_
    refine l_move ?_
    refine l_subf h (fun v9 _ h => ?_)
    refine l_len ?_
    refine l_move ?_
    refine k_nil ?_
    refine f_t ?_
    refine k_block ?_
    refine k_loop (fun y10 => ⟨[(1, S sep), (8, .ptr 1008 0), (63, .vs v9.length (F cS v9)), (64, I (v9.length : Int)), (65, I y10.1)], [(1008, .box 93 [.nptr false 1008 0, .sl 105751 0 y10.2.length]), (105751, .row 5 1 0 (F cU y10.2))], [105751]⟩) (fun q14 => (.exit 3, ⟨[(8, .ptr 1008 0)], [(1008, .box 93 [.nptr false 1008 0, .sl 105751 0 q14.length]), (105751, .row 5 1 0 (F cU q14))], [105751]⟩)) [(1008, 1008), (105751, 105751)] hB h (fun y10 t h => ?_) (fun q14 h => ?_)
    · unfold strings_Join_b2 at h
      refine k_seq ?_
      refine k_reg ?_
      refine l_cmp ?_
      refine k_nil ?_
      refine f_t ?_
      refine k_seq ?_
      refine k_if h (fun _ h => ?_) (fun _ h => ?_)
      · refine k_skip ?_
        refine f_t ?_
        refine k_seq ?_
        refine k_block ?_
        refine k_seq ?_
        refine k_reg ?_
        refine l_at h (fun v11 _ h => ?_)
        refine l_load ?_
        refine l_assign ?_
        refine k_nil ?_
        refine f_t ?_
        refine k_seq ?_
        refine k_reg ?_
        refine l_move ?_
        refine l_callX [(4000101, 1008), (4000102, 105751)] [1008, 105751] h (fun _ => strings_Builder_WriteString_s4_ok) (fun v12 _ h => ?_)
        refine k_nil ?_
        refine f_t ?_
        refine k_reg ?_
        refine l_move ?_
        refine l_callX [(4000101, 1008), (4000102, 105751)] [1008, 105751] h (fun _ => strings_Builder_WriteString_s4_ok) (fun v13 _ h => ?_)
        refine k_nil ?_
        refine f_b ?_
        refine f_t ?_
        refine k_reg ?_
        refine l_addw ?_
        refine l_move ?_
        refine k_nil ?_
        exact k_next [(1008, 1008), (105751, 105751)] hB h
      refine k_exit ?_
      refine f_te ?_
      exact k_brk [(1008, 1008), (105751, 105751)] hB h
    refine f_be ?_
    refine f_t ?_
    refine k_seq ?_
    refine k_reg ?_
    refine l_callX [(6000101, 1008), (6000102, 105751)] [1008, 105751] h (fun _ => strings_Builder_String_s6_ok) (fun v15 _ h => ?_)
    refine l_assign ?_
    refine k_nil ?_
    refine f_t ?_
    refine k_retc ?_
    apply k_ret [] hB h
  refine k_skip ?_
  refine f_t ?_
  refine k_seq ?_
  refine k_seq ?_
  refine k_reg ?_
  refine l_move ?_
  refine l_len ?_
  refine l_move ?_
  refine k_nil ?_
  refine f_t ?_
  refine k_block ?_
  refine k_loop (fun y16 => ⟨[(0, .vs elems.length (F cS elems)), (1, S sep), (5, I y16.1), (39, .vs elems.length (F cS elems)), (40, I (elems.length : Int)), (41, I y16.2)], [], []⟩) (fun q18 => (.exit 1, ⟨[(0, .vs elems.length (F cS elems)), (1, S sep), (5, I q18)], [], []⟩)) [] hB h (fun y16 t h => ?_) (fun q18 h => ?_)
  · unfold strings_Join_b3 at h
    refine k_seq ?_
    refine k_reg ?_
    refine l_cmp ?_
    refine k_nil ?_
    refine f_t ?_
    refine k_seq ?_
    refine k_if h (fun _ h => ?_) (fun _ h => ?_)
    · refine k_skip ?_
      refine f_t ?_
      refine k_seq ?_
      refine k_block ?_
      refine k_seq ?_
      refine k_reg ?_
      refine l_at h (fun v17 _ h => ?_)
      refine l_load ?_
      refine l_assign ?_
      refine k_nil ?_
      refine f_t ?_
      refine k_seq ?_
      refine k_seq ?_
      refine k_reg ?_
      refine l_move ?_
      refine l_lens ?_
      refine l_move ?_
      refine l_subw ?_
      refine l_cmp ?_
      refine k_nil ?_
      refine f_t ?_
      refine k_if h (fun _ h => ?_) (fun _ h => ?_)
      · refine k_reg ?_
        cases h
      refine k_skip ?_
      refine f_t ?_
      refine k_reg ?_
      refine l_move ?_
      refine l_move ?_
      refine l_lens ?_
      refine l_addw ?_
      refine l_assign ?_
      refine k_nil ?_
      refine f_b ?_
      refine f_t ?_
      refine k_reg ?_
      refine l_addw ?_
      refine l_move ?_
      refine k_nil ?_
      exact k_next [] hB h
    refine k_exit ?_
    refine f_te ?_
    exact k_brk [] hB h
  refine f_be ?_
  refine f_t ?_
  refine k_seq ?_
  refine k_reg ?_
  refine l_alloc ?_
  refine k_nil ?_
  refine f_t ?_
  refine k_seq ?_
  refine k_reg ?_
  refine l_move ?_
  refine l_npcell (b := 1008) (j := 0) 1008 0 ?_
  refine l_callX [(1000101, 1008), (1000151, 105751)] [1008] h (fun _ => strings_Builder_Grow_s1_ok) (fun v19 _ h => ?_)
  refine k_nil ?_
  refine f_t ?_
  refine k_seq ?_
  refine k_reg ?_
  refine l_move ?_
  refine l_at h (fun v20 _ h => ?_)
  refine l_load ?_
  refine l_callX [(4000101, 1008), (4000102, 105751)] [1008, 105751] h (fun _ => strings_Builder_WriteString_s4_ok) (fun v21 _ h => ?_)
  refine k_nil ?_
  refine f_t ?_
  refine k_seq ?_
  refine k_seq ?_
  refine k_reg ?_
  refine l_move ?_
  refine l_subf h (fun v22 _ h => ?_)
  refine l_len ?_
  refine l_move ?_
  refine k_nil ?_
  refine f_t ?_
  refine k_block ?_
  refine k_loop (fun y23 => ⟨[(1, S sep), (8, .ptr 1008 0), (63, .vs v22.length (F cS v22)), (64, I (v22.length : Int)), (65, I y23.1)], [(1008, .box 93 [.nptr false 1008 0, .sl 105751 0 y23.2.length]), (105751, .row 5 1 0 (F cU y23.2))], [105751]⟩) (fun q27 => (.exit 3, ⟨[(8, .ptr 1008 0)], [(1008, .box 93 [.nptr false 1008 0, .sl 105751 0 q27.length]), (105751, .row 5 1 0 (F cU q27))], [105751]⟩)) [(1008, 1008), (105751, 105751)] hB h (fun y23 t h => ?_) (fun q27 h => ?_)
  · unfold strings_Join_b4 at h
    refine k_seq ?_
    refine k_reg ?_
    refine l_cmp ?_
    refine k_nil ?_
    refine f_t ?_
    refine k_seq ?_
    refine k_if h (fun _ h => ?_) (fun _ h => ?_)
    · refine k_skip ?_
      refine f_t ?_
      refine k_seq ?_
      refine k_block ?_
      refine k_seq ?_
      refine k_reg ?_
      refine l_at h (fun v24 _ h => ?_)
      refine l_load ?_
      refine l_assign ?_
      refine k_nil ?_
      refine f_t ?_
      refine k_seq ?_
      refine k_reg ?_
      refine l_move ?_
      refine l_callX [(4000101, 1008), (4000102, 105751)] [1008, 105751] h (fun _ => strings_Builder_WriteString_s4_ok) (fun v25 _ h => ?_)
      refine k_nil ?_
      refine f_t ?_
      refine k_reg ?_
      refine l_move ?_
      refine l_callX [(4000101, 1008), (4000102, 105751)] [1008, 105751] h (fun _ => strings_Builder_WriteString_s4_ok) (fun v26 _ h => ?_)
      refine k_nil ?_
      refine f_b ?_
      refine f_t ?_
      refine k_reg ?_
      refine l_addw ?_
      refine l_move ?_
      refine k_nil ?_
      exact k_next [(1008, 1008), (105751, 105751)] hB h
    refine k_exit ?_
    refine f_te ?_
    exact k_brk [(1008, 1008), (105751, 105751)] hB h
  refine f_be ?_
  refine f_t ?_
  refine k_seq ?_
  refine k_reg ?_
  refine l_callX [(6000101, 1008), (6000102, 105751)] [1008, 105751] h (fun _ => strings_Builder_String_s6_ok) (fun v28 _ h => ?_)
  refine l_assign ?_
  refine k_nil ?_
  refine f_t ?_
  refine k_retc ?_
  apply k_ret [] hB h
theorem utf8_appendRuneNonASCII_ok {p : (List UInt8)} {r_ : Int} {r : (List UInt8)} (h : utf8_appendRuneNonASCII p r_ = some r) : XSpec Tryz.prog 246 [.sl 101 0 p.length, .pl (.int .i32 r_)] [(101, .row 5 1 0 (F cU p))] (.sl 101 0 r.length) [(101, .row 5 1 0 (F cU r))] [101] := by
  unfold utf8_appendRuneNonASCII at h
  refine X_of_run Tryz.hU Tryz.func246 (fun _ _ _ hB => ?_)
  refine k_seq ?_
  refine k_reg ?_
  refine l_assign ?_
  refine k_nil ?_
  refine f_t ?_
  refine k_seq ?_
  refine k_reg ?_
  refine l_move ?_
  refine l_conv_int ?_
  refine l_assign ?_
  refine k_nil ?_
  refine f_t ?_
  refine k_block ?_
  refine k_seq ?_
  refine k_reg ?_
  refine l_move ?_
  refine l_cmp ?_
  refine l_assign ?_
  refine k_nil ?_
  refine f_t ?_
  refine k_if h (fun _ h => ?_) (fun _ h => ?_)
  · refine k_seq ?_
    refine k_reg ?_
    refine l_move ?_
    refine l_move ?_
    refine l_shrC (r := (r_.fdiv (2 ^ 6))) ?_
    refine l_convU ?_
    refine l_bitsU ?_
    refine l_move ?_
    refine l_convU ?_
    refine l_bitsU ?_
    refine l_bitsU ?_
    refine l_lit (e := cU) [(u8 (bor 8 192 ((u8 (r_.fdiv (2 ^ 6))).toNat : Int))), (u8 (bor 8 128 ((u8 (band 8 ((u8 r_).toNat : Int) 63)).toNat : Int)))] ?_
    refine l_appo h (fun v1 _ h => ?_)
    refine l_assign ?_
    refine k_nil ?_
    refine f_t ?_
    refine k_retc ?_
    refine f_br ?_
    apply k_ret [(101, 101)] hB h
  refine k_seq ?_
  refine k_seq ?_
  refine k_reg ?_
  refine l_move ?_
  refine l_cmp ?_
  refine l_assign ?_
  refine k_nil ?_
  refine f_t ?_
  refine k_if h (fun _ h => ?_) (fun _ h => ?_)
  · refine k_skip ?_
    refine f_t ?_
    refine k_if h (fun _ h => ?_) (fun _ h => ?_)
    · refine k_seq ?_
      refine k_reg ?_
      refine l_move ?_
      refine l_move ?_
      refine l_shrC (r := (r_.fdiv (2 ^ 12))) ?_
      refine l_convU ?_
      refine l_bitsU ?_
      refine l_move ?_
      refine l_shrC (r := (r_.fdiv (2 ^ 6))) ?_
      refine l_convU ?_
      refine l_bitsU ?_
      refine l_bitsU ?_
      refine l_move ?_
      refine l_convU ?_
      refine l_bitsU ?_
      refine l_bitsU ?_
      refine l_lit (e := cU) [(u8 (bor 8 224 ((u8 (r_.fdiv (2 ^ 12))).toNat : Int))), (u8 (bor 8 128 ((u8 (band 8 ((u8 (r_.fdiv (2 ^ 6))).toNat : Int) 63)).toNat : Int))), (u8 (bor 8 128 ((u8 (band 8 ((u8 r_).toNat : Int) 63)).toNat : Int)))] ?_
      refine l_appo h (fun v2 _ h => ?_)
      refine l_assign ?_
      refine k_nil ?_
      refine f_t ?_
      refine k_retc ?_
      refine f_br ?_
      apply k_ret [(101, 101)] hB h
    refine k_seq ?_
    refine k_cut (fun q3 => (.normal, ⟨[(0, .sl 101 0 p.length), (1, .pl (.int .i32 r_)), (50, B q3)], [(101, .row 5 1 0 (F cU p))], []⟩)) h (fun t h => ?_) (fun q3 h => ?_)
    · refine k_reg ?_
      refine l_move ?_
      refine l_cmp ?_
      refine l_move ?_
      refine l_split h (fun _ h => ?_) (fun _ h => ?_)
      · refine l_on ?_
        refine l_move ?_
        refine l_on ?_
        refine l_cmp ?_
        refine l_pick_true ?_
        refine l_assign ?_
        refine k_nil ?_
        exact k_out [(101, 101)] hB h
      refine l_off ?_
      refine l_off ?_
      refine l_pick_false ?_
      refine l_assign ?_
      refine k_nil ?_
      exact k_out [(101, 101)] hB h
    refine f_t ?_
    refine k_if h (fun _ h => ?_) (fun _ h => ?_)
    · refine k_seq ?_
      refine k_reg ?_
      refine l_move ?_
      refine l_move ?_
      refine l_shrC (r := (r_.fdiv (2 ^ 18))) ?_
      refine l_convU ?_
      refine l_bitsU ?_
      refine l_move ?_
      refine l_shrC (r := (r_.fdiv (2 ^ 12))) ?_
      refine l_convU ?_
      refine l_bitsU ?_
      refine l_bitsU ?_
      refine l_move ?_
      refine l_shrC (r := (r_.fdiv (2 ^ 6))) ?_
      refine l_convU ?_
      refine l_bitsU ?_
      refine l_bitsU ?_
      refine l_move ?_
      refine l_convU ?_
      refine l_bitsU ?_
      refine l_bitsU ?_
      refine l_lit (e := cU) [(u8 (bor 8 240 ((u8 (r_.fdiv (2 ^ 18))).toNat : Int))), (u8 (bor 8 128 ((u8 (band 8 ((u8 (r_.fdiv (2 ^ 12))).toNat : Int) 63)).toNat : Int))), (u8 (bor 8 128 ((u8 (band 8 ((u8 (r_.fdiv (2 ^ 6))).toNat : Int) 63)).toNat : Int))), (u8 (bor 8 128 ((u8 (band 8 ((u8 r_).toNat : Int) 63)).toNat : Int)))] ?_
      refine l_appo h (fun v4 _ h => ?_)
      refine l_assign ?_
      refine k_nil ?_
      refine f_t ?_
      refine k_retc ?_
      refine f_br ?_
      apply k_ret [(101, 101)] hB h
    refine k_seq ?_
    refine k_reg ?_
    refine l_move ?_
    refine l_lit (e := cU) [239, 191, 189] ?_
    refine l_appo h (fun v5 _ h => ?_)
    refine l_assign ?_
    refine k_nil ?_
    refine f_t ?_
    refine k_retc ?_
    refine f_br ?_
    apply k_ret [(101, 101)] hB h
  refine k_reg ?_
  refine l_move ?_
  refine l_cmp ?_
  refine l_move ?_
  refine l_split h (fun _ h => ?_) (fun _ h => ?_)
  · refine l_on ?_
    refine l_move ?_
    refine l_on ?_
    refine l_cmp ?_
    refine l_pick_true ?_
    refine l_assign ?_
    refine k_nil ?_
    refine f_t ?_
    refine k_if h (fun _ h => ?_) (fun _ h => ?_)
    · refine k_seq ?_
      refine k_reg ?_
      refine l_move ?_
      refine l_move ?_
      refine l_shrC (r := (r_.fdiv (2 ^ 12))) ?_
      refine l_convU ?_
      refine l_bitsU ?_
      refine l_move ?_
      refine l_shrC (r := (r_.fdiv (2 ^ 6))) ?_
      refine l_convU ?_
      refine l_bitsU ?_
      refine l_bitsU ?_
      refine l_move ?_
      refine l_convU ?_
      refine l_bitsU ?_
      refine l_bitsU ?_
      refine l_lit (e := cU) [(u8 (bor 8 224 ((u8 (r_.fdiv (2 ^ 12))).toNat : Int))), (u8 (bor 8 128 ((u8 (band 8 ((u8 (r_.fdiv (2 ^ 6))).toNat : Int) 63)).toNat : Int))), (u8 (bor 8 128 ((u8 (band 8 ((u8 r_).toNat : Int) 63)).toNat : Int)))] ?_
      refine l_appo h (fun v6 _ h => ?_)
      refine l_assign ?_
      refine k_nil ?_
      refine f_t ?_
      refine k_retc ?_
      refine f_br ?_
      apply k_ret [(101, 101)] hB h
    refine k_seq ?_
    refine k_cut (fun q7 => (.normal, ⟨[(0, .sl 101 0 p.length), (1, .pl (.int .i32 r_)), (50, B q7)], [(101, .row 5 1 0 (F cU p))], []⟩)) h (fun t h => ?_) (fun q7 h => ?_)
    · refine k_reg ?_
      refine l_move ?_
      refine l_cmp ?_
      refine l_move ?_
      refine l_split h (fun _ h => ?_) (fun _ h => ?_)
      · refine l_on ?_
        refine l_move ?_
        refine l_on ?_
        refine l_cmp ?_
        refine l_pick_true ?_
        refine l_assign ?_
        refine k_nil ?_
        exact k_out [(101, 101)] hB h
      refine l_off ?_
      refine l_off ?_
      refine l_pick_false ?_
      refine l_assign ?_
      refine k_nil ?_
      exact k_out [(101, 101)] hB h
    refine f_t ?_
    refine k_if h (fun _ h => ?_) (fun _ h => ?_)
    · refine k_seq ?_
      refine k_reg ?_
      refine l_move ?_
      refine l_move ?_
      refine l_shrC (r := (r_.fdiv (2 ^ 18))) ?_
      refine l_convU ?_
      refine l_bitsU ?_
      refine l_move ?_
      refine l_shrC (r := (r_.fdiv (2 ^ 12))) ?_
      refine l_convU ?_
      refine l_bitsU ?_
      refine l_bitsU ?_
      refine l_move ?_
      refine l_shrC (r := (r_.fdiv (2 ^ 6))) ?_
      refine l_convU ?_
      refine l_bitsU ?_
      refine l_bitsU ?_
      refine l_move ?_
      refine l_convU ?_
      refine l_bitsU ?_
      refine l_bitsU ?_
      refine l_lit (e := cU) [(u8 (bor 8 240 ((u8 (r_.fdiv (2 ^ 18))).toNat : Int))), (u8 (bor 8 128 ((u8 (band 8 ((u8 (r_.fdiv (2 ^ 12))).toNat : Int) 63)).toNat : Int))), (u8 (bor 8 128 ((u8 (band 8 ((u8 (r_.fdiv (2 ^ 6))).toNat : Int) 63)).toNat : Int))), (u8 (bor 8 128 ((u8 (band 8 ((u8 r_).toNat : Int) 63)).toNat : Int)))] ?_
      refine l_appo h (fun v8 _ h => ?_)
      refine l_assign ?_
      refine k_nil ?_
      refine f_t ?_
      refine k_retc ?_
      refine f_br ?_
      apply k_ret [(101, 101)] hB h
    refine k_seq ?_
    refine k_reg ?_
    refine l_move ?_
    refine l_lit (e := cU) [239, 191, 189] ?_
    refine l_appo h (fun v9 _ h => ?_)
    refine l_assign ?_
    refine k_nil ?_
    refine f_t ?_
    refine k_retc ?_
    refine f_br ?_
    apply k_ret [(101, 101)] hB h
  refine l_off ?_
  refine l_off ?_
  refine l_pick_false ?_
  refine l_assign ?_
  refine k_nil ?_
  refine f_t ?_
  refine k_f ?_
  refine k_seq ?_
  refine k_cut (fun q10 => (.normal, ⟨[(0, .sl 101 0 p.length), (1, .pl (.int .i32 r_)), (50, B q10)], [(101, .row 5 1 0 (F cU p))], []⟩)) h (fun t h => ?_) (fun q10 h => ?_)
  · refine k_reg ?_
    refine l_move ?_
    refine l_cmp ?_
    refine l_move ?_
    refine l_split h (fun _ h => ?_) (fun _ h => ?_)
    · refine l_on ?_
      refine l_move ?_
      refine l_on ?_
      refine l_cmp ?_
      refine l_pick_true ?_
      refine l_assign ?_
      refine k_nil ?_
      exact k_out [(101, 101)] hB h
    refine l_off ?_
    refine l_off ?_
    refine l_pick_false ?_
    refine l_assign ?_
    refine k_nil ?_
    exact k_out [(101, 101)] hB h
  refine f_t ?_
  refine k_if h (fun _ h => ?_) (fun _ h => ?_)
  · refine k_seq ?_
    refine k_reg ?_
    refine l_move ?_
    refine l_move ?_
    refine l_shrC (r := (r_.fdiv (2 ^ 18))) ?_
    refine l_convU ?_
    refine l_bitsU ?_
    refine l_move ?_
    refine l_shrC (r := (r_.fdiv (2 ^ 12))) ?_
    refine l_convU ?_
    refine l_bitsU ?_
    refine l_bitsU ?_
    refine l_move ?_
    refine l_shrC (r := (r_.fdiv (2 ^ 6))) ?_
    refine l_convU ?_
    refine l_bitsU ?_
    refine l_bitsU ?_
    refine l_move ?_
    refine l_convU ?_
    refine l_bitsU ?_
    refine l_bitsU ?_
    refine l_lit (e := cU) [(u8 (bor 8 240 ((u8 (r_.fdiv (2 ^ 18))).toNat : Int))), (u8 (bor 8 128 ((u8 (band 8 ((u8 (r_.fdiv (2 ^ 12))).toNat : Int) 63)).toNat : Int))), (u8 (bor 8 128 ((u8 (band 8 ((u8 (r_.fdiv (2 ^ 6))).toNat : Int) 63)).toNat : Int))), (u8 (bor 8 128 ((u8 (band 8 ((u8 r_).toNat : Int) 63)).toNat : Int)))] ?_
    refine l_appo h (fun v11 _ h => ?_)
    refine l_assign ?_
    refine k_nil ?_
    refine f_t ?_
    refine k_retc ?_
    refine f_br ?_
    apply k_ret [(101, 101)] hB h
  refine k_seq ?_
  refine k_reg ?_
  refine l_move ?_
  refine l_lit (e := cU) [239, 191, 189] ?_
  refine l_appo h (fun v12 _ h => ?_)
  refine l_assign ?_
  refine k_nil ?_
  refine f_t ?_
  refine k_retc ?_
  refine f_br ?_
  apply k_ret [(101, 101)] hB h
theorem utf8_AppendRune_ok {p : (List UInt8)} {r_ : Int} {r : (List UInt8)} (h : utf8_AppendRune p r_ = some r) : XSpec Tryz.prog 225 [.sl 101 0 p.length, .pl (.int .i32 r_)] [(101, .row 5 1 0 (F cU p))] (.sl 101 0 r.length) [(101, .row 5 1 0 (F cU r))] [101] := by
  unfold utf8_AppendRune at h
  refine X_of_run Tryz.hU Tryz.func225 (fun _ _ _ hB => ?_)
  refine k_seq ?_
  refine k_reg ?_
  refine l_assign ?_
  refine k_nil ?_
  refine f_t ?_
  refine k_seq ?_
  refine k_seq ?_
  refine k_reg ?_
  refine l_move ?_
  refine l_conv_int ?_
  refine l_cmp ?_
  refine k_nil ?_
  refine f_t ?_
  refine k_if h (fun _ h => ?_) (fun _ h => ?_)
  · refine k_seq ?_
    refine k_reg ?_
    refine l_move ?_
    refine l_move ?_
    refine l_convU ?_
    refine l_lit (e := cU) [(u8 r_)] ?_
    refine l_appo h (fun v1 _ h => ?_)
    refine l_assign ?_
    refine k_nil ?_
    refine f_t ?_
    refine k_retc ?_
    refine f_tr ?_
    apply k_ret [(101, 101)] hB h
  refine k_skip ?_
  refine f_t ?_
  refine k_seq ?_
  refine k_reg ?_
  refine l_move ?_
  refine l_move ?_
  refine l_callX [] [101] h (fun _ => utf8_appendRuneNonASCII_ok) (fun v2 _ h => ?_)
  refine l_assign ?_
  refine k_nil ?_
  refine f_t ?_
  refine k_retc ?_
  apply k_ret [(101, 101)] hB h
theorem strings_Builder_WriteRune_s22_ok {u1 : Int} {u2 : Bool} {u3 : (List UInt8)} {r : Int × (List UInt8)} (h : strings_Builder_WriteRune_s22 u1 u2 u3 = some r) : XSpec Tryz.prog 187 [.ptr 22000101 0, .pl (.int .i32 u1)] [(22000101, .box 93 [.nptr u2 22000101 0, .sl 22000102 0 u3.length]), (22000102, .row 5 1 0 (F cU u3))] (.tup [I r.1, .pl .nilIface]) [(22000101, .box 93 [.nptr false 22000101 0, .sl 22000102 0 r.2.length]), (22000102, .row 5 1 0 (F cU r.2))] [22000102] := by
  unfold strings_Builder_WriteRune_s22 at h
  refine X_of_run Tryz.hU Tryz.func187 (fun _ _ _ hB => ?_)
  refine k_seq ?_
  refine k_reg ?_
  refine l_assign ?_
  refine l_assign ?_
  refine k_nil ?_
  refine f_t ?_
  refine k_seq ?_
  refine k_reg ?_
  refine l_move ?_
  refine l_callX [(5000101, 22000101), (5000102, 22000102)] [22000101, 22000102] h (fun _ => strings_Builder_copyCheck_s5_ok) (fun v1 _ h => ?_)
  refine k_nil ?_
  refine f_t ?_
  refine k_seq ?_
  refine k_reg ?_
  refine l_move ?_
  refine l_nilCheck ?_
  refine l_fieldAddr ?_
  refine l_load ?_
  refine l_len ?_
  refine l_assign ?_
  refine k_nil ?_
  refine f_t ?_
  refine k_seq ?_
  refine k_reg ?_
  refine l_move ?_
  refine l_move ?_
  refine l_nilCheck ?_
  refine l_fieldAddr ?_
  refine l_load ?_
  refine l_move ?_
  refine l_callX [(101, 22000102)] [22000102] h (fun _ => utf8_AppendRune_ok) (fun v2 _ h => ?_)
  refine l_nilCheck ?_
  refine l_fieldAddr ?_
  refine l_store_box ?_
  refine k_nil ?_
  refine f_t ?_
  refine k_seq ?_
  refine k_reg ?_
  refine l_move ?_
  refine l_nilCheck ?_
  refine l_fieldAddr ?_
  refine l_load ?_
  refine l_len ?_
  refine l_move ?_
  refine l_subw ?_
  refine l_assign ?_
  refine l_assign ?_
  refine k_nil ?_
  refine f_t ?_
  refine k_retc ?_
  apply k_ret [(22000101, 22000101), (22000102, 22000102)] hB h
theorem call_caller_translate_ok {c : TCaller} {r : TValue} (h : call_caller_translate c = some r) : XSpec Tryz.prog 148 [.agg (c_TCaller c)] [] (.agg (c_TValue r)) [] [] := by
  unfold call_caller_translate at h
  refine X_of_run Tryz.hU Tryz.func148 (fun _ _ _ hB => ?_)
  refine k_seq ?_
  refine k_reg ?_
  refine l_box ?_
  refine l_alloc ?_
  refine k_nil ?_
  refine f_t ?_
  refine k_seq ?_
  refine k_reg ?_
  refine l_load_agg ?_
  refine l_call h (fun _ => call_caller_text_ok) (fun v1 _ h => ?_)
  refine l_runes h (fun v2 _ h => ?_)
  refine l_assign ?_
  refine k_nil ?_
  refine f_t ?_
  refine k_seq ?_
  refine k_reg ?_
  refine l_mmake ?_
  refine l_assign ?_
  refine k_nil ?_
  refine f_t ?_
  refine k_seq ?_
  refine k_seq ?_
  refine k_reg ?_
  refine l_load_agg ?_
  refine l_call h (fun _ => call_caller_text_ok) (fun v3 _ h => ?_)
  refine l_runes h (fun v4 _ h => ?_)
  refine l_len ?_
  refine l_move ?_
  refine k_nil ?_
  refine f_t ?_
  refine k_block ?_
  refine k_loop (fun y5 => ⟨[(1, .ptr 1001 0), (2, .ptr 1002 0), (3, .sl 1016 0 v2.length), (4, .mp 1017), (20, .sl 1020 0 v4.length), (21, I (v4.length : Int)), (22, I y5.1)], [(1001, .box 108 [oP c_TIndex c.x, I c.at_.P.N, I c.at_.P.Part, I c.at_.P.I, I c.at_.Position, I c.at_.Size, .vs c.args.length (F c_TValue c.args)]), (1002, .box 40 [I 0, .pl (.slice none 0 0), B false, I 0, B false, S []]), (1016, .row 21 1 0 (F cR v2)), (1017, .map (MP (kI .i32) (fun v => I v) y5.2)), (1020, .row 21 1 0 (F cR v4))], []⟩) (fun q7 => (.exit 0, ⟨[(1, .ptr 1001 0), (2, .ptr 1002 0), (3, .sl 1016 0 v2.length), (4, .mp 1017)], [(1001, .box 108 [oP c_TIndex c.x, I c.at_.P.N, I c.at_.P.Part, I c.at_.P.I, I c.at_.Position, I c.at_.Size, .vs c.args.length (F c_TValue c.args)]), (1002, .box 40 [I 0, .pl (.slice none 0 0), B false, I 0, B false, S []]), (1016, .row 21 1 0 (F cR v2)), (1017, .map (MP (kI .i32) (fun v => I v) q7))], []⟩)) [(1001, 1001), (1002, 1002), (1016, 1016), (1017, 1017), (1020, 1020)] hB h (fun y5 t h => ?_) (fun q7 h => ?_)
  · unfold call_caller_translate_b1 at h
    refine k_seq ?_
    refine k_reg ?_
    refine l_cmp ?_
    refine k_nil ?_
    refine f_t ?_
    refine k_seq ?_
    refine k_if h (fun _ h => ?_) (fun _ h => ?_)
    · refine k_skip ?_
      refine f_t ?_
      refine k_seq ?_
      refine k_block ?_
      refine k_seq ?_
      refine k_reg ?_
      refine l_move ?_
      refine l_ato h (fun v6 ev6 h => ?_)
      refine l_ldr0 ev6 ?_
      refine l_assign ?_
      refine l_assign ?_
      refine k_nil ?_
      refine f_t ?_
      refine k_seq ?_
      refine k_reg ?_
      refine l_move ?_
      refine l_move ?_
      refine l_mget (keyI .i32) (ev := (fun v => I v)) (m := y5.2) (k := v6) 0 ?_
      refine l_move ?_
      refine l_extract ?_
      refine l_extract ?_
      refine l_assign ?_
      refine l_assign ?_
      refine k_nil ?_
      refine f_t ?_
      refine k_seq ?_
      refine k_reg ?_
      refine l_move ?_
      refine l_un ?_
      refine k_nil ?_
      refine f_t ?_
      refine k_if h (fun _ h => ?_) (fun _ h => ?_)
      · refine k_reg ?_
        refine l_move ?_
        refine l_move ?_
        refine l_move ?_
        refine l_mupd (keyI .i32) (ev := (fun v => I v)) (m := y5.2) (k := v6) y5.1 ?_
        refine k_nil ?_
        refine f_b ?_
        refine f_t ?_
        refine k_reg ?_
        refine l_addw ?_
        refine l_move ?_
        refine k_nil ?_
        exact k_next [(1001, 1001), (1002, 1002), (1016, 1016), (1017, 1017), (1020, 1020)] hB h
      refine k_skip ?_
      refine f_b ?_
      refine f_t ?_
      refine k_reg ?_
      refine l_addw ?_
      refine l_move ?_
      refine k_nil ?_
      exact k_next [(1001, 1001), (1002, 1002), (1016, 1016), (1017, 1017), (1020, 1020)] hB h
    refine k_exit ?_
    refine f_te ?_
    exact k_brk [(1001, 1001), (1002, 1002), (1016, 1016), (1017, 1017)] hB h
  refine f_be ?_
  refine f_t ?_
  refine k_seq ?_
  refine k_reg ?_
  refine l_alloc ?_
  refine k_nil ?_
  refine f_t ?_
  refine k_seq ?_
  refine k_seq ?_
  refine k_reg ?_
  refine l_load_agg ?_
  refine l_call h (fun _ => call_caller_text_ok) (fun v8 _ h => ?_)
  refine l_range ?_
  refine k_nil ?_
  refine f_t ?_
  refine k_block ?_
  refine k_npcell (b := 1009) (j := 0) 1009 0 ?_
  refine k_nilcell (te := 5) (b1 := 1009) (j := 1) 13091 1 ?_
  refine k_loop (fun y9 => ⟨[(2, .ptr 1002 0), (3, .sl 1016 0 v2.length), (4, .mp 1017), (9, .ptr 1009 0), (41, .it 1041)], [(1002, .box 40 [I 0, .pl (.slice none 0 0), B false, I 0, B false, S []]), (1016, .row 21 1 0 (F cR v2)), (1017, .map (MP (kI .i32) (fun v => I v) q7)), (1009, .box 93 [.nptr y9.1 1009 0, .sl 13091 0 y9.2.2.length]), (1041, .siter ⟨v8.toArray⟩ y9.2.1), (13091, .row 5 1 0 (F cU y9.2.2))], []⟩) (fun q13 => (.exit 2, ⟨[(2, .ptr 1002 0), (9, .ptr 1009 0)], [(1002, .box 40 [I 0, .pl (.slice none 0 0), B false, I 0, B false, S []]), (1009, .box 93 [.nptr q13.1 1009 0, .sl 13091 0 q13.2.length]), (13091, .row 5 1 0 (F cU q13.2))], []⟩)) [(1002, 1002), (1016, 1016), (1017, 1017), (1009, 1009), (1041, 1041), (13091, 13091)] hB h (fun y9 t h => ?_) (fun q13 h => ?_)
  · unfold call_caller_translate_b2 at h
    refine k_seq ?_
    refine k_reg ?_
    refine l_next h (fun _ h => ?_) (fun _ h => ?_)
    · refine l_extract ?_
      refine k_nil ?_
      refine f_t ?_
      refine k_seq ?_
      refine k_t ?_
      refine k_skip ?_
      refine f_t ?_
      refine k_block ?_
      refine k_seq ?_
      refine k_reg ?_
      refine l_extract ?_
      refine l_assign ?_
      refine k_nil ?_
      refine f_t ?_
      refine k_seq ?_
      refine k_reg ?_
      refine l_move ?_
      refine l_move ?_
      refine l_mget (keyI .i32) (ev := (fun v => I v)) (m := q7) (k := ((dec v8 y9.2.1).1 : Int)) 0 ?_
      refine l_move ?_
      refine l_extract ?_
      refine l_extract ?_
      refine l_assign ?_
      refine l_assign ?_
      refine k_nil ?_
      refine f_t ?_
      refine k_block ?_
      refine k_seq ?_
      refine k_reg ?_
      refine l_move ?_
      refine l_un ?_
      refine l_assign ?_
      refine k_nil ?_
      refine f_t ?_
      refine k_if h (fun _ h => ?_) (fun _ h => ?_)
      · refine k_reg ?_
        refine l_move ?_
        refine l_callX [(22000101, 1009), (22000102, 13091)] [1009, 13091] h (fun _ => strings_Builder_WriteRune_s22_ok) (fun v10 _ h => ?_)
        refine k_nil ?_
        refine f_b ?_
        refine f_b ?_
        exact k_next [(1002, 1002), (1016, 1016), (1017, 1017), (1009, 1009), (1041, 1041), (13091, 13091)] hB h
      refine k_seq ?_
      refine k_reg ?_
      refine l_move ?_
      refine l_move ?_
      refine l_len ?_
      refine l_cmp ?_
      refine l_assign ?_
      refine k_nil ?_
      refine f_t ?_
      refine k_if h (fun _ h => ?_) (fun _ h => ?_)
      · refine k_reg ?_
        refine l_move ?_
        refine l_move ?_
        refine l_ato h (fun v11 ev11 h => ?_)
        refine l_ldr0 ev11 ?_
        refine l_callX [(22000101, 1009), (22000102, 13091)] [1009, 13091] h (fun _ => strings_Builder_WriteRune_s22_ok) (fun v12 _ h => ?_)
        refine k_nil ?_
        refine f_b ?_
        refine f_b ?_
        exact k_next [(1002, 1002), (1016, 1016), (1017, 1017), (1009, 1009), (1041, 1041), (13091, 13091)] hB h
      refine k_skip ?_
      refine f_b ?_
      refine f_b ?_
      exact k_next [(1002, 1002), (1016, 1016), (1017, 1017), (1009, 1009), (1041, 1041), (13091, 13091)] hB h
    refine l_extract ?_
    refine k_nil ?_
    refine f_t ?_
    refine k_seq ?_
    refine k_f ?_
    refine k_exit ?_
    refine f_te ?_
    exact k_brk [(1002, 1002), (1009, 1009), (13091, 13091)] hB h
  refine f_be ?_
  refine f_t ?_
  refine k_seq ?_
  refine k_reg ?_
  refine l_callX [(6000101, 1009), (6000102, 13091)] [1009, 13091] h (fun _ => strings_Builder_String_s6_ok) (fun v14 _ h => ?_)
  refine l_call h (fun _ => value_OfText_ok) (fun v15 _ h => ?_)
  refine l_to [(1002, 1002)] ⟨[(2, .ptr 1002 0), (67, .agg (c_TValue v15))], [(1002, .box 40 [I 0, .pl (.slice none 0 0), B false, I 0, B false, S []])], [13091]⟩ hB ?_
  refine l_store_box ?_
  refine k_nil ?_
  refine f_t ?_
  refine k_retc ?_
  apply k_ret [] hB h
theorem call_caller_texts_ok {c : TCaller} {f : Str} {r : TValue} (h : call_caller_texts c f = some r) : XSpec Tryz.prog 102 [.agg (c_TCaller c), S f] [] (.agg (c_TValue r)) [] [] := by
  unfold call_caller_texts at h
  refine X_of_run Tryz.hU Tryz.func102 (fun _ _ _ hB => ?_)
  refine k_seq ?_
  refine k_reg ?_
  refine l_box ?_
  refine l_alloc ?_
  refine k_nil ?_
  refine f_t ?_
  refine k_seq ?_
  refine k_seq ?_
  refine k_reg ?_
  refine l_move ?_
  refine k_nil ?_
  refine f_t ?_
  refine k_block ?_
  refine k_seq ?_
  refine k_reg ?_
  refine l_seq ?_
  refine l_assign ?_
  refine k_nil ?_
  refine f_t ?_
  refine k_if h (fun _ h => ?_) (fun _ h => ?_)
  · refine k_seq ?_
    refine k_reg ?_
    refine l_load_agg ?_
    refine l_call h (fun _ => call_caller_text_ok) (fun v1 _ h => ?_)
    refine l_call h (fun _ => value_OfText_ok) (fun v2 _ h => ?_)
    refine l_to [(1004, 1004)] ⟨[(4, .ptr 1004 0), (18, .agg (c_TValue v2))], [(1004, .box 40 [I 0, .pl (.slice none 0 0), B false, I 0, B false, S []])], []⟩ hB ?_
    refine l_store_box ?_
    refine k_nil ?_
    refine f_t ?_
    refine k_retc ?_
    refine f_br ?_
    refine f_tr ?_
    apply k_ret [] hB h
  refine k_seq ?_
  refine k_reg ?_
  refine l_seq ?_
  refine l_assign ?_
  refine k_nil ?_
  refine f_t ?_
  refine k_if h (fun _ h => ?_) (fun _ h => ?_)
  · refine k_seq ?_
    refine k_reg ?_
    refine l_alloc ?_
    refine k_nil ?_
    refine f_t ?_
    refine k_seq ?_
    refine k_seq ?_
    refine k_reg ?_
    refine l_fieldAddr ?_
    refine l_load ?_
    refine l_len ?_
    refine l_move ?_
    refine k_nil ?_
    refine f_t ?_
    refine k_block ?_
    refine k_npcell (b := 1005) (j := 0) 1005 0 ?_
    refine k_nilcell (te := 5) (b1 := 1005) (j := 1) 13051 1 ?_
    refine k_loop (fun y3 => ⟨[(2, .ptr 1002 0), (4, .ptr 1004 0), (5, .ptr 1005 0), (23, I (c.args.length : Int)), (24, I y3.1)], [(1002, .box 108 [oP c_TIndex c.x, I c.at_.P.N, I c.at_.P.Part, I c.at_.P.I, I c.at_.Position, I c.at_.Size, .vs c.args.length (F c_TValue c.args)]), (1004, .box 40 [I 0, .pl (.slice none 0 0), B false, I 0, B false, S []]), (1005, .box 93 [.nptr y3.2.1 1005 0, .sl 13051 0 y3.2.2.length]), (13051, .row 5 1 0 (F cU y3.2.2))], []⟩) (fun q6 => (.exit 1, ⟨[(4, .ptr 1004 0), (5, .ptr 1005 0)], [(1004, .box 40 [I 0, .pl (.slice none 0 0), B false, I 0, B false, S []]), (1005, .box 93 [.nptr q6.1 1005 0, .sl 13051 0 q6.2.length]), (13051, .row 5 1 0 (F cU q6.2))], []⟩)) [(1002, 1002), (1004, 1004), (1005, 1005), (13051, 13051)] hB h (fun y3 t h => ?_) (fun q6 h => ?_)
    · unfold call_caller_texts_b1 at h
      refine k_seq ?_
      refine k_reg ?_
      refine l_cmp ?_
      refine k_nil ?_
      refine f_t ?_
      refine k_seq ?_
      refine k_if h (fun _ h => ?_) (fun _ h => ?_)
      · refine k_skip ?_
        refine f_t ?_
        refine k_seq ?_
        refine k_block ?_
        refine k_seq ?_
        refine k_reg ?_
        refine l_move ?_
        refine l_assign ?_
        refine k_nil ?_
        refine f_t ?_
        refine k_reg ?_
        refine l_load_agg ?_
        refine l_move ?_
        refine l_call h (fun _ => call_caller_text_ok) (fun v4 _ h => ?_)
        refine l_callX [(4000101, 1005), (4000102, 13051)] [1005, 13051] h (fun _ => strings_Builder_WriteString_s4_ok) (fun v5 _ h => ?_)
        refine k_nil ?_
        refine f_b ?_
        refine f_t ?_
        refine k_reg ?_
        refine l_addw ?_
        refine l_move ?_
        refine k_nil ?_
        exact k_next [(1002, 1002), (1004, 1004), (1005, 1005), (13051, 13051)] hB h
      refine k_exit ?_
      refine f_te ?_
      exact k_brk [(1004, 1004), (1005, 1005), (13051, 13051)] hB h
    refine f_be ?_
    refine f_t ?_
    refine k_seq ?_
    refine k_reg ?_
    refine l_callX [(6000101, 1005), (6000102, 13051)] [1005, 13051] h (fun _ => strings_Builder_String_s6_ok) (fun v7 _ h => ?_)
    refine l_call h (fun _ => value_OfText_ok) (fun v8 _ h => ?_)
    refine l_to [(1004, 1004)] ⟨[(4, .ptr 1004 0), (33, .agg (c_TValue v8))], [(1004, .box 40 [I 0, .pl (.slice none 0 0), B false, I 0, B false, S []])], [13051]⟩ hB ?_
    refine l_store_box ?_
    refine k_nil ?_
    refine f_t ?_
    refine k_retc ?_
    refine f_br ?_
    refine f_tr ?_
    apply k_ret [] hB h
  refine k_seq ?_
  refine k_reg ?_
  refine l_seq ?_
  refine l_assign ?_
  refine k_nil ?_
  refine f_t ?_
  refine k_if h (fun _ h => ?_) (fun _ h => ?_)
  · refine k_seq ?_
    refine k_mix [6] (.q 0 (.q 2 (.e 1 (.e 3 (.e 4 (.e 5 (.e 6 (.done)))))))) hm ?_
    refine gq ?_
    refine n_load_agg ?_
    refine gq ?_
    refine n_load_agg ?_
    refine ge ?_
    refine n_call h (fun _ => call_caller_text_ok) (fun v9 _ h => ?_)
    refine ge ?_
    refine n_call h (fun _ => call_caller_text_ok) (fun v10 _ h => ?_)
    refine ge ?_
    refine n_call h (fun _ => strings_HasPrefix_ok) (fun v11 _ h => ?_)
    refine ge ?_
    refine n_call h (fun _ => value_OfTruth_ok) (fun v12 _ h => ?_)
    refine ge ?_
    refine n_store_box ?_
    refine m_nil ?_
    refine f_t ?_
    refine k_retc ?_
    refine f_br ?_
    refine f_tr ?_
    apply k_ret [] hB h
  refine k_seq ?_
  refine k_reg ?_
  refine l_seq ?_
  refine l_assign ?_
  refine k_nil ?_
  refine f_t ?_
  refine k_if h (fun _ h => ?_) (fun _ h => ?_)
  · refine k_seq ?_
    refine k_mix [6] (.q 0 (.q 2 (.e 1 (.e 3 (.e 4 (.e 5 (.e 6 (.done)))))))) hm ?_
    refine gq ?_
    refine n_load_agg ?_
    refine gq ?_
    refine n_load_agg ?_
    refine ge ?_
    refine n_call h (fun _ => call_caller_text_ok) (fun v13 _ h => ?_)
    refine ge ?_
    refine n_call h (fun _ => call_caller_text_ok) (fun v14 _ h => ?_)
    refine ge ?_
    refine n_call h (fun _ => strings_Contains_ok) (fun v15 _ h => ?_)
    refine ge ?_
    refine n_call h (fun _ => value_OfTruth_ok) (fun v16 _ h => ?_)
    refine ge ?_
    refine n_store_box ?_
    refine m_nil ?_
    refine f_t ?_
    refine k_retc ?_
    refine f_br ?_
    refine f_tr ?_
    apply k_ret [] hB h
  refine k_seq ?_
  refine k_reg ?_
  refine l_seq ?_
  refine l_assign ?_
  refine k_nil ?_
  refine f_t ?_
  refine k_if h (fun _ h => ?_) (fun _ h => ?_)
  · refine k_seq ?_
    refine k_mix [] (.q 0 (.q 2 (.e 1 (.e 3 (.e 4 (.q 5 (.q 6 (.q 7 (.q 8 (.q 9 (.q 10 (.q 11 (.done))))))))))))) hm ?_
    refine gq ?_
    refine n_load_agg ?_
    refine gq ?_
    refine n_load_agg ?_
    refine ge ?_
    refine n_call h (fun _ => call_caller_text_ok) (fun v17 _ h => ?_)
    refine ge ?_
    refine n_call h (fun _ => call_caller_text_ok) (fun v18 _ h => ?_)
    refine ge ?_
    refine n_call h (fun _ => strings_Cut_ok) (fun v19 _ h => ?_)
    refine gq ?_
    refine n_move ?_
    refine gq ?_
    refine n_extract ?_
    refine gq ?_
    refine n_extract ?_
    refine gq ?_
    refine n_extract ?_
    refine gq ?_
    refine n_assign ?_
    refine gq ?_
    refine n_assign ?_
    refine gq ?_
    refine n_assign ?_
    refine m_nil ?_
    refine f_t ?_
    refine k_seq ?_
    refine k_seq ?_
    refine k_reg ?_
    refine l_move ?_
    refine l_un ?_
    refine k_nil ?_
    refine f_t ?_
    refine k_if h (fun _ h => ?_) (fun _ h => ?_)
    · refine k_reg ?_
      refine l_assign ?_
      refine k_nil ?_
      refine f_t ?_
      refine k_seq ?_
      refine k_reg ?_
      refine l_move ?_
      refine l_call h (fun _ => value_OfText_ok) (fun v20 _ h => ?_)
      refine l_store_box ?_
      refine k_nil ?_
      refine f_t ?_
      refine k_retc ?_
      refine f_br ?_
      refine f_tr ?_
      apply k_ret [] hB h
    refine k_skip ?_
    refine f_t ?_
    refine k_seq ?_
    refine k_reg ?_
    refine l_move ?_
    refine l_call h (fun _ => value_OfText_ok) (fun v21 _ h => ?_)
    refine l_store_box ?_
    refine k_nil ?_
    refine f_t ?_
    refine k_retc ?_
    refine f_br ?_
    refine f_tr ?_
    apply k_ret [] hB h
  refine k_seq ?_
  refine k_reg ?_
  refine l_seq ?_
  refine l_assign ?_
  refine k_nil ?_
  refine f_t ?_
  refine k_if h (fun _ h => ?_) (fun _ h => ?_)
  · refine k_seq ?_
    refine k_mix [] (.q 0 (.q 2 (.e 1 (.e 3 (.e 4 (.q 5 (.q 6 (.q 7 (.q 8 (.q 9 (.q 10 (.q 11 (.done))))))))))))) hm ?_
    refine gq ?_
    refine n_load_agg ?_
    refine gq ?_
    refine n_load_agg ?_
    refine ge ?_
    refine n_call h (fun _ => call_caller_text_ok) (fun v22 _ h => ?_)
    refine ge ?_
    refine n_call h (fun _ => call_caller_text_ok) (fun v23 _ h => ?_)
    refine ge ?_
    refine n_call h (fun _ => strings_Cut_ok) (fun v24 _ h => ?_)
    refine gq ?_
    refine n_move ?_
    refine gq ?_
    refine n_extract ?_
    refine gq ?_
    refine n_extract ?_
    refine gq ?_
    refine n_extract ?_
    refine gq ?_
    refine n_assign ?_
    refine gq ?_
    refine n_assign ?_
    refine gq ?_
    refine n_assign ?_
    refine m_nil ?_
    refine f_t ?_
    refine k_seq ?_
    refine k_reg ?_
    refine l_move ?_
    refine l_call h (fun _ => value_OfText_ok) (fun v25 _ h => ?_)
    refine l_store_box ?_
    refine k_nil ?_
    refine f_t ?_
    refine k_retc ?_
    refine f_br ?_
    refine f_tr ?_
    apply k_ret [] hB h
  refine k_seq ?_
  refine k_reg ?_
  refine l_seq ?_
  refine l_assign ?_
  refine k_nil ?_
  refine f_t ?_
  refine k_if h (fun _ h => ?_) (fun _ h => ?_)
  · refine k_seq ?_
    refine k_reg ?_
    refine l_load_agg ?_
    refine l_call h (fun _ => call_caller_text_ok) (fun v26 _ h => ?_)
    refine l_callX [(1, 108201)] [] h (fun _ => call_words_ok) (fun v27 _ h => ?_)
    refine l_to [(1004, 1004), (108201, 108201)] ⟨[(4, .ptr 1004 0), (82, .sl 108201 0 v27.length)], [(1004, .box 40 [I 0, .pl (.slice none 0 0), B false, I 0, B false, S []]), (108201, .row 9 1 0 (F cS v27))], []⟩ hB ?_
    refine l_callB h (fun _ => strings_Join_ok) (fun v28 _ h => ?_)
    refine l_call h (fun _ => value_OfText_ok) (fun v29 _ h => ?_)
    refine l_to [(1004, 1004)] ⟨[(4, .ptr 1004 0), (84, .agg (c_TValue v29))], [(1004, .box 40 [I 0, .pl (.slice none 0 0), B false, I 0, B false, S []])], []⟩ hB ?_
    refine l_store_box ?_
    refine k_nil ?_
    refine f_t ?_
    refine k_retc ?_
    refine f_br ?_
    refine f_tr ?_
    apply k_ret [] hB h
  refine k_seq ?_
  refine k_reg ?_
  refine l_seq ?_
  refine l_assign ?_
  refine k_nil ?_
  refine f_t ?_
  refine k_if h (fun _ h => ?_) (fun _ h => ?_)
  · refine k_seq ?_
    refine k_reg ?_
    refine l_load_agg ?_
    refine l_call h (fun _ => call_caller_translate_ok) (fun v30 _ h => ?_)
    refine l_store_box ?_
    refine k_nil ?_
    refine f_t ?_
    refine k_retc ?_
    refine f_br ?_
    refine f_tr ?_
    apply k_ret [] hB h
  refine k_seq ?_
  refine k_reg ?_
  refine l_seq ?_
  refine l_assign ?_
  refine k_nil ?_
  refine f_t ?_
  cases h
theorem call_caller_do_ok {c : TCaller} {f : Str} {r : TValue × Int} (h : call_caller_do c f = some r) : XSpec Tryz.prog 58 [.agg (c_TCaller c), S f] [] (.tup [.agg (c_TValue r.1), I r.2]) [] [] := by
  unfold call_caller_do at h
  refine X_of_run Tryz.hU Tryz.func58 (fun _ _ _ hB => ?_)
  refine k_seq ?_
  refine k_reg ?_
  refine l_box ?_
  refine l_alloc ?_
  refine l_assign ?_
  refine k_nil ?_
  refine f_t ?_
  refine k_seq ?_
  refine k_seq ?_
  refine k_reg ?_
  refine l_move ?_
  refine k_nil ?_
  refine f_t ?_
  refine k_block ?_
  refine k_seq ?_
  refine k_reg ?_
  refine l_seq ?_
  refine l_assign ?_
  refine k_nil ?_
  refine f_t ?_
  refine k_if h (fun _ h => ?_) (fun _ h => ?_)
  · refine k_seq ?_
    refine k_reg ?_
    refine l_fieldAddr ?_
    refine l_fieldAddr ?_
    refine l_load ?_
    refine l_call h (fun _ => value_OfNumber_ok) (fun v1 _ h => ?_)
    refine l_extract ?_
    refine l_extract ?_
    refine l_store_box ?_
    refine l_assign ?_
    refine k_nil ?_
    refine f_t ?_
    refine k_retc ?_
    refine f_br ?_
    refine f_tr ?_
    apply k_ret [] hB h
  refine k_seq ?_
  refine k_reg ?_
  refine l_seq ?_
  refine l_assign ?_
  refine k_nil ?_
  refine f_t ?_
  refine k_if h (fun _ h => ?_) (fun _ h => ?_)
  · refine k_seq ?_
    refine k_reg ?_
    refine l_fieldAddr ?_
    refine l_fieldAddr ?_
    refine l_load ?_
    refine l_call h (fun _ => value_OfNumber_ok) (fun v2 _ h => ?_)
    refine l_extract ?_
    refine l_extract ?_
    refine l_store_box ?_
    refine l_assign ?_
    refine k_nil ?_
    refine f_t ?_
    refine k_retc ?_
    refine f_br ?_
    refine f_tr ?_
    apply k_ret [] hB h
  refine k_seq ?_
  refine k_reg ?_
  refine l_seq ?_
  refine l_assign ?_
  refine k_nil ?_
  refine f_t ?_
  refine k_if h (fun _ h => ?_) (fun _ h => ?_)
  · refine k_seq ?_
    refine k_reg ?_
    refine l_fieldAddr ?_
    refine l_load ?_
    refine l_at h (fun v3 _ h => ?_)
    refine l_fieldAddr ?_
    refine l_load ?_
    refine l_len ?_
    refine l_call h (fun _ => value_OfNumber_ok) (fun v4 _ h => ?_)
    refine l_extract ?_
    refine l_extract ?_
    refine l_store_box ?_
    refine l_assign ?_
    refine k_nil ?_
    refine f_t ?_
    refine k_retc ?_
    refine f_br ?_
    refine f_tr ?_
    apply k_ret [] hB h
  refine k_seq ?_
  refine k_reg ?_
  refine l_seq ?_
  refine l_assign ?_
  refine k_nil ?_
  refine f_t ?_
  refine k_if h (fun _ h => ?_) (fun _ h => ?_)
  · refine k_seq ?_
    refine k_reg ?_
    refine l_load_agg ?_
    refine l_call h (fun _ => call_caller_text_ok) (fun v5 _ h => ?_)
    refine l_runes h (fun v6 _ h => ?_)
    refine l_len ?_
    refine l_call h (fun _ => value_OfNumber_ok) (fun v7 _ h => ?_)
    refine l_to [(1004, 1004)] ⟨[(4, .ptr 1004 0), (40, .tup [.agg (c_TValue v7.1), I v7.2])], [(1004, .box 40 [I 0, .pl (.slice none 0 0), B false, I 0, B false, S []])], []⟩ hB ?_
    refine l_extract ?_
    refine l_extract ?_
    refine l_store_box ?_
    refine l_assign ?_
    refine k_nil ?_
    refine f_t ?_
    refine k_retc ?_
    refine f_br ?_
    refine f_tr ?_
    apply k_ret [] hB h
  refine k_seq ?_
  refine k_reg ?_
  refine l_seq ?_
  refine l_assign ?_
  refine k_nil ?_
  refine f_t ?_
  refine k_if h (fun _ h => ?_) (fun _ h => ?_)
  · refine k_seq ?_
    refine k_reg ?_
    refine l_load_agg ?_
    refine l_call h (fun _ => call_caller_substring_ok) (fun v8 _ h => ?_)
    refine l_extract ?_
    refine l_extract ?_
    refine l_store_box ?_
    refine l_assign ?_
    refine k_nil ?_
    refine f_t ?_
    refine k_retc ?_
    refine f_br ?_
    refine f_tr ?_
    apply k_ret [] hB h
  refine k_seq ?_
  refine k_reg ?_
  refine l_seq ?_
  refine l_assign ?_
  refine k_nil ?_
  refine f_t ?_
  refine k_if h (fun _ h => ?_) (fun _ h => ?_)
  · refine k_seq ?_
    refine k_reg ?_
    refine l_fieldAddr ?_
    refine l_load ?_
    cases h
  refine k_seq ?_
  refine k_reg ?_
  refine l_seq ?_
  refine l_assign ?_
  refine k_nil ?_
  refine f_t ?_
  refine k_if h (fun _ h => ?_) (fun _ h => ?_)
  · refine k_seq ?_
    refine k_reg ?_
    refine l_fieldAddr ?_
    refine l_load ?_
    cases h
  refine k_seq ?_
  refine k_seq ?_
  refine k_reg ?_
  refine l_seq ?_
  refine l_assign ?_
  refine k_nil ?_
  refine f_t ?_
  refine k_if h (fun _ h => ?_) (fun _ h => ?_)
  · refine k_skip ?_
    refine f_t ?_
    refine k_if h (fun _ h => ?_) (fun _ h => ?_)
    · refine k_seq ?_
      refine k_reg ?_
      refine l_move ?_
      refine l_seq ?_
      refine l_call h (fun _ => value_OfTruth_ok) (fun v11 _ h => ?_)
      refine l_store_box ?_
      refine l_assign ?_
      refine k_nil ?_
      refine f_t ?_
      refine k_retc ?_
      refine f_br ?_
      refine f_tr ?_
      apply k_ret [] hB h
    refine k_seq ?_
    refine k_reg ?_
    refine l_seq ?_
    refine l_assign ?_
    refine k_nil ?_
    refine f_t ?_
    refine k_if h (fun _ h => ?_) (fun _ h => ?_)
    · refine k_seq ?_
      refine k_reg ?_
      refine l_load_agg ?_
      cases h
    refine k_seq ?_
    refine k_reg ?_
    refine l_seq ?_
    refine l_assign ?_
    refine k_nil ?_
    refine f_t ?_
    refine k_if h (fun _ h => ?_) (fun _ h => ?_)
    · refine k_seq ?_
      refine k_reg ?_
      refine l_load_agg ?_
      cases h
    refine k_seq ?_
    refine k_seq ?_
    refine k_reg ?_
    refine l_seq ?_
    refine l_assign ?_
    refine k_nil ?_
    refine f_t ?_
    refine k_if h (fun _ h => ?_) (fun _ h => ?_)
    · refine k_skip ?_
      refine f_t ?_
      refine k_if h (fun _ h => ?_) (fun _ h => ?_)
      · refine k_seq ?_
        refine k_reg ?_
        refine l_load_agg ?_
        refine l_call h (fun _ => call_caller_number_ok) (fun v12 _ h => ?_)
        refine l_extract ?_
        refine l_extract ?_
        refine l_store_box ?_
        refine l_assign ?_
        refine k_nil ?_
        refine f_t ?_
        refine k_retc ?_
        refine f_br ?_
        refine f_tr ?_
        apply k_ret [] hB h
      refine k_skip ?_
      refine f_b ?_
      refine f_t ?_
      refine k_seq ?_
      refine k_reg ?_
      refine l_load_agg ?_
      refine l_move ?_
      refine l_call h (fun _ => call_caller_texts_ok) (fun v13 _ h => ?_)
      refine l_store_box ?_
      refine l_assign ?_
      refine k_nil ?_
      refine f_t ?_
      refine k_retc ?_
      apply k_ret [] hB h
    refine k_seq ?_
    refine k_reg ?_
    refine l_seq ?_
    refine l_assign ?_
    refine k_nil ?_
    refine f_t ?_
    refine k_if h (fun _ h => ?_) (fun _ h => ?_)
    · refine k_skip ?_
      refine f_t ?_
      refine k_if h (fun _ h => ?_) (fun _ h => ?_)
      · refine k_seq ?_
        refine k_reg ?_
        refine l_load_agg ?_
        refine l_call h (fun _ => call_caller_number_ok) (fun v14 _ h => ?_)
        refine l_extract ?_
        refine l_extract ?_
        refine l_store_box ?_
        refine l_assign ?_
        refine k_nil ?_
        refine f_t ?_
        refine k_retc ?_
        refine f_br ?_
        refine f_tr ?_
        apply k_ret [] hB h
      refine k_skip ?_
      refine f_b ?_
      refine f_t ?_
      refine k_seq ?_
      refine k_reg ?_
      refine l_load_agg ?_
      refine l_move ?_
      refine l_call h (fun _ => call_caller_texts_ok) (fun v15 _ h => ?_)
      refine l_store_box ?_
      refine l_assign ?_
      refine k_nil ?_
      refine f_t ?_
      refine k_retc ?_
      apply k_ret [] hB h
    refine k_seq ?_
    refine k_reg ?_
    refine l_seq ?_
    refine l_assign ?_
    refine k_nil ?_
    refine f_t ?_
    refine k_if h (fun _ h => ?_) (fun _ h => ?_)
    · refine k_skip ?_
      refine f_t ?_
      refine k_if h (fun _ h => ?_) (fun _ h => ?_)
      · refine k_seq ?_
        refine k_reg ?_
        refine l_load_agg ?_
        refine l_call h (fun _ => call_caller_number_ok) (fun v16 _ h => ?_)
        refine l_extract ?_
        refine l_extract ?_
        refine l_store_box ?_
        refine l_assign ?_
        refine k_nil ?_
        refine f_t ?_
        refine k_retc ?_
        refine f_br ?_
        refine f_tr ?_
        apply k_ret [] hB h
      refine k_skip ?_
      refine f_b ?_
      refine f_t ?_
      refine k_seq ?_
      refine k_reg ?_
      refine l_load_agg ?_
      refine l_move ?_
      refine l_call h (fun _ => call_caller_texts_ok) (fun v17 _ h => ?_)
      refine l_store_box ?_
      refine l_assign ?_
      refine k_nil ?_
      refine f_t ?_
      refine k_retc ?_
      apply k_ret [] hB h
    refine k_reg ?_
    refine l_seq ?_
    refine l_assign ?_
    refine k_nil ?_
    refine f_t ?_
    refine k_if h (fun _ h => ?_) (fun _ h => ?_)
    · refine k_seq ?_
      refine k_reg ?_
      refine l_load_agg ?_
      refine l_call h (fun _ => call_caller_number_ok) (fun v18 _ h => ?_)
      refine l_extract ?_
      refine l_extract ?_
      refine l_store_box ?_
      refine l_assign ?_
      refine k_nil ?_
      refine f_t ?_
      refine k_retc ?_
      refine f_br ?_
      refine f_tr ?_
      apply k_ret [] hB h
    refine k_skip ?_
    refine f_b ?_
    refine f_t ?_
    refine k_seq ?_
    refine k_reg ?_
    refine l_load_agg ?_
    refine l_move ?_
    refine l_call h (fun _ => call_caller_texts_ok) (fun v19 _ h => ?_)
    refine l_store_box ?_
    refine l_assign ?_
    refine k_nil ?_
    refine f_t ?_
    refine k_retc ?_
    apply k_ret [] hB h
  refine k_reg ?_
  refine l_seq ?_
  refine l_assign ?_
  refine k_nil ?_
  refine f_t ?_
  refine k_if h (fun _ h => ?_) (fun _ h => ?_)
  · refine k_seq ?_
    refine k_reg ?_
    refine l_move ?_
    refine l_seq ?_
    refine l_call h (fun _ => value_OfTruth_ok) (fun v20 _ h => ?_)
    refine l_store_box ?_
    refine l_assign ?_
    refine k_nil ?_
    refine f_t ?_
    refine k_retc ?_
    refine f_br ?_
    refine f_tr ?_
    apply k_ret [] hB h
  refine k_seq ?_
  refine k_reg ?_
  refine l_seq ?_
  refine l_assign ?_
  refine k_nil ?_
  refine f_t ?_
  refine k_if h (fun _ h => ?_) (fun _ h => ?_)
  · refine k_seq ?_
    refine k_reg ?_
    refine l_load_agg ?_
    cases h
  refine k_seq ?_
  refine k_reg ?_
  refine l_seq ?_
  refine l_assign ?_
  refine k_nil ?_
  refine f_t ?_
  refine k_if h (fun _ h => ?_) (fun _ h => ?_)
  · refine k_seq ?_
    refine k_reg ?_
    refine l_load_agg ?_
    cases h
  refine k_seq ?_
  refine k_seq ?_
  refine k_reg ?_
  refine l_seq ?_
  refine l_assign ?_
  refine k_nil ?_
  refine f_t ?_
  refine k_if h (fun _ h => ?_) (fun _ h => ?_)
  · refine k_skip ?_
    refine f_t ?_
    refine k_if h (fun _ h => ?_) (fun _ h => ?_)
    · refine k_seq ?_
      refine k_reg ?_
      refine l_load_agg ?_
      refine l_call h (fun _ => call_caller_number_ok) (fun v21 _ h => ?_)
      refine l_extract ?_
      refine l_extract ?_
      refine l_store_box ?_
      refine l_assign ?_
      refine k_nil ?_
      refine f_t ?_
      refine k_retc ?_
      refine f_br ?_
      refine f_tr ?_
      apply k_ret [] hB h
    refine k_skip ?_
    refine f_b ?_
    refine f_t ?_
    refine k_seq ?_
    refine k_reg ?_
    refine l_load_agg ?_
    refine l_move ?_
    refine l_call h (fun _ => call_caller_texts_ok) (fun v22 _ h => ?_)
    refine l_store_box ?_
    refine l_assign ?_
    refine k_nil ?_
    refine f_t ?_
    refine k_retc ?_
    apply k_ret [] hB h
  refine k_seq ?_
  refine k_reg ?_
  refine l_seq ?_
  refine l_assign ?_
  refine k_nil ?_
  refine f_t ?_
  refine k_if h (fun _ h => ?_) (fun _ h => ?_)
  · refine k_skip ?_
    refine f_t ?_
    refine k_if h (fun _ h => ?_) (fun _ h => ?_)
    · refine k_seq ?_
      refine k_reg ?_
      refine l_load_agg ?_
      refine l_call h (fun _ => call_caller_number_ok) (fun v23 _ h => ?_)
      refine l_extract ?_
      refine l_extract ?_
      refine l_store_box ?_
      refine l_assign ?_
      refine k_nil ?_
      refine f_t ?_
      refine k_retc ?_
      refine f_br ?_
      refine f_tr ?_
      apply k_ret [] hB h
    refine k_skip ?_
    refine f_b ?_
    refine f_t ?_
    refine k_seq ?_
    refine k_reg ?_
    refine l_load_agg ?_
    refine l_move ?_
    refine l_call h (fun _ => call_caller_texts_ok) (fun v24 _ h => ?_)
    refine l_store_box ?_
    refine l_assign ?_
    refine k_nil ?_
    refine f_t ?_
    refine k_retc ?_
    apply k_ret [] hB h
  refine k_seq ?_
  refine k_reg ?_
  refine l_seq ?_
  refine l_assign ?_
  refine k_nil ?_
  refine f_t ?_
  refine k_if h (fun _ h => ?_) (fun _ h => ?_)
  · refine k_skip ?_
    refine f_t ?_
    refine k_if h (fun _ h => ?_) (fun _ h => ?_)
    · refine k_seq ?_
      refine k_reg ?_
      refine l_load_agg ?_
      refine l_call h (fun _ => call_caller_number_ok) (fun v25 _ h => ?_)
      refine l_extract ?_
      refine l_extract ?_
      refine l_store_box ?_
      refine l_assign ?_
      refine k_nil ?_
      refine f_t ?_
      refine k_retc ?_
      refine f_br ?_
      refine f_tr ?_
      apply k_ret [] hB h
    refine k_skip ?_
    refine f_b ?_
    refine f_t ?_
    refine k_seq ?_
    refine k_reg ?_
    refine l_load_agg ?_
    refine l_move ?_
    refine l_call h (fun _ => call_caller_texts_ok) (fun v26 _ h => ?_)
    refine l_store_box ?_
    refine l_assign ?_
    refine k_nil ?_
    refine f_t ?_
    refine k_retc ?_
    apply k_ret [] hB h
  refine k_reg ?_
  refine l_seq ?_
  refine l_assign ?_
  refine k_nil ?_
  refine f_t ?_
  refine k_if h (fun _ h => ?_) (fun _ h => ?_)
  · refine k_seq ?_
    refine k_reg ?_
    refine l_load_agg ?_
    refine l_call h (fun _ => call_caller_number_ok) (fun v27 _ h => ?_)
    refine l_extract ?_
    refine l_extract ?_
    refine l_store_box ?_
    refine l_assign ?_
    refine k_nil ?_
    refine f_t ?_
    refine k_retc ?_
    refine f_br ?_
    refine f_tr ?_
    apply k_ret [] hB h
  refine k_skip ?_
  refine f_b ?_
  refine f_t ?_
  refine k_seq ?_
  refine k_reg ?_
  refine l_load_agg ?_
  refine l_move ?_
  refine l_call h (fun _ => call_caller_texts_ok) (fun v28 _ h => ?_)
  refine l_store_box ?_
  refine l_assign ?_
  refine k_nil ?_
  refine f_t ?_
  refine k_retc ?_
  apply k_ret [] hB h
theorem call_Do_ok {x : (Option TIndex)} {at_ : TPlace} {name : Str} {args : (List TValue)} {r : TValue × Int} (h : call_Do x at_ name args = some r) : XSpec Tryz.prog 27 [oP c_TIndex x, .agg (c_TPlace at_), S name, .vs args.length (F c_TValue args)] [] (.tup [.agg (c_TValue r.1), I r.2]) [] [] := by
  unfold call_Do at h
  refine X_of_run Tryz.hU Tryz.func27 (fun _ _ _ hB => ?_)
  refine k_seq ?_
  refine k_reg ?_
  refine l_box ?_
  refine l_alloc ?_
  refine l_assign ?_
  refine k_nil ?_
  refine f_t ?_
  refine k_seq ?_
  refine k_seq ?_
  refine k_reg ?_
  refine l_move ?_
  refine l_pnil ?_
  refine k_nil ?_
  refine f_t ?_
  refine k_if h (fun _ h => ?_) (fun _ h => ?_)
  · refine k_seq ?_
    refine k_reg ?_
    refine l_build ?_
    refine l_store_box ?_
    refine l_assign ?_
    refine k_nil ?_
    refine f_t ?_
    refine k_retc ?_
    refine f_tr ?_
    apply k_retN [] hB h
  refine k_skip ?_
  refine f_t ?_
  refine k_seq ?_
  refine k_reg ?_
  refine l_callX [(1, 101601)] [] h (fun _ => call_shapes_ok) (fun v1 _ h => ?_)
  refine l_move ?_
  refine l_mget keyS (ev := (fun v => .agg (c_TShape v))) (m := v1) (k := name) (TShape.mk 0 0 false) ?_
  refine l_move ?_
  refine l_extract ?_
  refine l_extract ?_
  refine l_alloc ?_
  refine l_store_box ?_
  refine l_assign ?_
  refine k_nil ?_
  refine f_t ?_
  refine k_seq ?_
  refine k_seq ?_
  refine k_reg ?_
  refine l_move ?_
  refine l_un ?_
  refine l_move ?_
  refine l_split h (fun _ h => ?_) (fun _ h => ?_)
  · refine l_off ?_
    refine l_off ?_
    refine l_off ?_
    refine l_off ?_
    refine l_off ?_
    refine l_pick_true ?_
    refine l_move ?_
    refine l_off ?_
    refine l_off ?_
    refine l_off ?_
    refine l_off ?_
    refine l_off ?_
    refine l_pick_true ?_
    refine l_move ?_
    refine l_off ?_
    refine l_off ?_
    refine l_off ?_
    refine l_off ?_
    refine l_off ?_
    refine l_off ?_
    refine l_off ?_
    refine l_off ?_
    refine l_off ?_
    refine l_off ?_
    refine l_off ?_
    refine l_off ?_
    refine l_off ?_
    refine l_off ?_
    refine l_pick_true ?_
    refine k_nil ?_
    refine f_t ?_
    refine k_t ?_
    refine k_seq ?_
    refine k_reg ?_
    refine l_build ?_
    refine l_store_box ?_
    refine l_assign ?_
    refine k_nil ?_
    refine f_t ?_
    refine k_retc ?_
    refine f_tr ?_
    apply k_retN [] hB h
  refine l_on ?_
  refine l_move ?_
  refine l_on ?_
  refine l_len ?_
  refine l_on ?_
  refine l_fieldAddr ?_
  refine l_on ?_
  refine l_load ?_
  refine l_on ?_
  refine l_cmp ?_
  refine l_pick_false ?_
  refine l_move ?_
  refine l_split h (fun _ h => ?_) (fun _ h => ?_)
  · refine l_off ?_
    refine l_off ?_
    refine l_off ?_
    refine l_off ?_
    refine l_off ?_
    refine l_pick_true ?_
    refine l_move ?_
    refine l_off ?_
    refine l_off ?_
    refine l_off ?_
    refine l_off ?_
    refine l_off ?_
    refine l_off ?_
    refine l_off ?_
    refine l_off ?_
    refine l_off ?_
    refine l_off ?_
    refine l_off ?_
    refine l_off ?_
    refine l_off ?_
    refine l_off ?_
    refine l_pick_true ?_
    refine k_nil ?_
    refine f_t ?_
    refine k_t ?_
    refine k_seq ?_
    refine k_reg ?_
    refine l_build ?_
    refine l_store_box ?_
    refine l_assign ?_
    refine k_nil ?_
    refine f_t ?_
    refine k_retc ?_
    refine f_tr ?_
    apply k_retN [] hB h
  refine l_on ?_
  refine l_move ?_
  refine l_on ?_
  refine l_len ?_
  refine l_on ?_
  refine l_fieldAddr ?_
  refine l_on ?_
  refine l_load ?_
  refine l_on ?_
  refine l_cmp ?_
  refine l_pick_false ?_
  refine l_move ?_
  refine l_split h (fun _ h => ?_) (fun _ h => ?_)
  · refine l_off ?_
    refine l_off ?_
    refine l_off ?_
    refine l_off ?_
    refine l_off ?_
    refine l_off ?_
    refine l_off ?_
    refine l_off ?_
    refine l_off ?_
    refine l_off ?_
    refine l_off ?_
    refine l_off ?_
    refine l_off ?_
    refine l_off ?_
    refine l_pick_true ?_
    refine k_nil ?_
    refine f_t ?_
    refine k_t ?_
    refine k_seq ?_
    refine k_reg ?_
    refine l_build ?_
    refine l_store_box ?_
    refine l_assign ?_
    refine k_nil ?_
    refine f_t ?_
    refine k_retc ?_
    refine f_tr ?_
    apply k_retN [] hB h
  refine l_on ?_
  refine l_fieldAddr ?_
  refine l_on ?_
  refine l_load ?_
  refine l_on ?_
  refine l_move ?_
  refine l_split h (fun _ h => ?_) (fun _ h => ?_)
  · refine l_on ?_
    refine l_move ?_
    refine l_on ?_
    refine l_len ?_
    refine l_on ?_
    refine l_cmp ?_
    refine l_on ?_
    refine l_pick_true ?_
    refine l_on ?_
    refine l_move ?_
    refine l_split h (fun _ h => ?_) (fun _ h => ?_)
    · refine l_on ?_
      refine l_move ?_
      refine l_on ?_
      refine l_at h (fun v2 _ h => ?_)
      refine l_on ?_
      refine l_fieldAddr ?_
      refine l_on ?_
      refine l_load ?_
      refine l_on ?_
      refine l_cmp ?_
      refine l_on ?_
      refine l_pick_true ?_
      refine l_pick_false ?_
      refine k_nil ?_
      refine f_t ?_
      refine k_if h (fun _ h => ?_) (fun _ h => ?_)
      · refine k_seq ?_
        refine k_reg ?_
        refine l_build ?_
        refine l_store_box ?_
        refine l_assign ?_
        refine k_nil ?_
        refine f_t ?_
        refine k_retc ?_
        refine f_tr ?_
        apply k_retN [] hB h
      refine k_skip ?_
      refine f_t ?_
      refine k_seq ?_
      refine k_reg ?_
      refine l_move ?_
      refine l_load_agg ?_
      refine l_move ?_
      refine l_build ?_
      refine l_move ?_
      refine l_call h (fun _ => call_caller_do_ok) (fun v3 _ h => ?_)
      refine l_extract ?_
      refine l_extract ?_
      refine l_store_box ?_
      refine l_assign ?_
      refine k_nil ?_
      refine f_t ?_
      refine k_retc ?_
      apply k_ret [] hB h
    refine l_off ?_
    refine l_off ?_
    refine l_off ?_
    refine l_off ?_
    refine l_off ?_
    refine l_on ?_
    refine l_pick_false ?_
    refine l_pick_false ?_
    refine k_nil ?_
    refine f_t ?_
    refine k_f ?_
    refine k_skip ?_
    refine f_t ?_
    refine k_seq ?_
    refine k_reg ?_
    refine l_move ?_
    refine l_load_agg ?_
    refine l_move ?_
    refine l_build ?_
    refine l_move ?_
    refine l_call h (fun _ => call_caller_do_ok) (fun v4 _ h => ?_)
    refine l_extract ?_
    refine l_extract ?_
    refine l_store_box ?_
    refine l_assign ?_
    refine k_nil ?_
    refine f_t ?_
    refine k_retc ?_
    apply k_ret [] hB h
  refine l_off ?_
  refine l_off ?_
  refine l_off ?_
  refine l_on ?_
  refine l_pick_false ?_
  refine l_on ?_
  refine l_move ?_
  refine l_off ?_
  refine l_off ?_
  refine l_off ?_
  refine l_off ?_
  refine l_off ?_
  refine l_on ?_
  refine l_pick_false ?_
  refine l_pick_false ?_
  refine k_nil ?_
  refine f_t ?_
  refine k_f ?_
  refine k_skip ?_
  refine f_t ?_
  refine k_seq ?_
  refine k_reg ?_
  refine l_move ?_
  refine l_load_agg ?_
  refine l_move ?_
  refine l_build ?_
  refine l_move ?_
  refine l_call h (fun _ => call_caller_do_ok) (fun v5 _ h => ?_)
  refine l_extract ?_
  refine l_extract ?_
  refine l_store_box ?_
  refine l_assign ?_
  refine k_nil ?_
  refine f_t ?_
  refine k_retc ?_
  apply k_ret [] hB h
theorem call_Is_ok {name : Str} {r : Bool} (h : call_Is name = some r) : XSpec Tryz.prog 46 [S name] [] (B r) [] [] := by
  unfold call_Is at h
  refine X_of_run Tryz.hU Tryz.func46 (fun _ _ _ hB => ?_)
  refine k_seq ?_
  refine k_reg ?_
  refine l_assign ?_
  refine k_nil ?_
  refine f_t ?_
  refine k_seq ?_
  refine k_reg ?_
  refine l_callX [(1, 100601)] [] h (fun _ => call_shapes_ok) (fun v1 _ h => ?_)
  refine l_move ?_
  refine l_mget keyS (ev := (fun v => .agg (c_TShape v))) (m := v1) (k := name) (TShape.mk 0 0 false) ?_
  refine l_move ?_
  refine l_extract ?_
  refine l_extract ?_
  refine l_alloc ?_
  refine l_store_box ?_
  refine l_assign ?_
  refine k_nil ?_
  refine f_t ?_
  refine k_seq ?_
  refine k_reg ?_
  refine l_move ?_
  refine l_assign ?_
  refine k_nil ?_
  refine f_t ?_
  refine k_retc ?_
  apply k_ret [] hB h
theorem apostillelaw17_awake_ok {r : Bool} (h : apostillelaw17_awake = some r) : XSpec Tryz.prog 23 [] [] (B r) [] [] := by
  unfold apostillelaw17_awake at h
  refine X_of_run Tryz.hU Tryz.func23 (fun _ _ _ hB => ?_)
  refine k_seq ?_
  refine k_reg ?_
  refine l_assign ?_
  refine k_nil ?_
  refine f_t ?_
  refine k_seq ?_
  refine k_reg ?_
  refine l_litb [60, 97, 47, 62] ?_
  refine l_frz 1010 ?_
  refine l_call h (fun _ => parse_Parse_ok) (fun v1 _ h => ?_)
  refine l_move ?_
  refine l_extract ?_
  refine l_extract ?_
  refine l_assign ?_
  refine l_assign ?_
  refine k_nil ?_
  refine f_t ?_
  refine k_seq ?_
  refine k_reg ?_
  refine l_move ?_
  refine l_call h (fun _ => ident_Of_ok) (fun v2 _ h => ?_)
  refine l_move ?_
  refine l_extract ?_
  refine l_extract ?_
  refine l_assign ?_
  refine l_assign ?_
  refine k_nil ?_
  refine f_t ?_
  refine k_seq ?_
  refine k_reg ?_
  refine l_call h (fun _ => value_OfNumber_ok) (fun v3 _ h => ?_)
  refine l_move ?_
  refine l_extract ?_
  refine l_extract ?_
  refine l_alloc ?_
  refine l_store_box ?_
  refine l_assign ?_
  refine k_nil ?_
  refine f_t ?_
  refine k_seq ?_
  refine k_cut (fun q6 => (.normal, ⟨[(2, I v1.2), (4, I v2.2), (7, .ptr 1007 0), (8, I q6.1)], [(1007, .box 40 [I q6.2.1, .vs q6.2.2.1.length (F c_TPoint q6.2.2.1), B q6.2.2.2.1, I q6.2.2.2.2.1, B q6.2.2.2.2.2.1, S q6.2.2.2.2.2.2])], []⟩)) h (fun t h => ?_) (fun q6 h => ?_)
  · refine k_mix [10] (.q 0 (.q 1 (.q 3 (.alt 2 (.alt 4 (.alt 5 (.q 6 (.q 7 (.alt 8 (.e 9 (.e 10 (.q 11 (.done)))) (.e 9 (.alt 8 (.e 10 (.q 11 (.done))) (.e 10 (.q 8 (.q 11 (.done))))))))) (.e 9 (.e 5 (.q 6 (.q 7 (.alt 8 (.e 10 (.q 11 (.done))) (.e 10 (.q 8 (.q 11 (.done)))))))))) (.e 9 (.e 4 (.e 5 (.q 6 (.q 7 (.alt 8 (.e 10 (.q 11 (.done))) (.e 10 (.q 8 (.q 11 (.done))))))))))) (.e 9 (.e 2 (.e 4 (.e 5 (.q 6 (.q 7 (.alt 8 (.e 10 (.q 11 (.done))) (.e 10 (.q 8 (.q 11 (.done))))))))))))))) hm ?_
    refine gq ?_
    refine n_move ?_
    refine gq ?_
    refine n_build ?_
    refine gq ?_
    refine n_load_agg ?_
    refine m_alt ?_ ?_
    · refine ge ?_
      refine n_call h (fun _ => value_OfText_ok) (fun v4 _ h => ?_)
      refine m_alt ?_ ?_
      · refine ge ?_
        refine n_lit (e := c_TValue) [v4, v3.1] ?_
        refine m_alt ?_ ?_
        · refine m_frz 1029 ?_
          refine ge ?_
          refine n_call h (fun _ => call_Do_ok) (fun v5 _ h => ?_)
          refine gq ?_
          refine n_move ?_
          refine gq ?_
          refine n_extract ?_
          refine m_alt ?_ ?_
          · refine geq ?_
            refine n_extract ?_
            refine ge ?_
            refine n_alloc ?_
            refine ge ?_
            refine n_store_box ?_
            refine gq ?_
            refine n_assign ?_
            refine m_nil ?_
            exact k_out [(1007, 1007)] hB h
          refine ge ?_
          refine n_alloc ?_
          refine m_alt ?_ ?_
          · refine geq ?_
            refine n_extract ?_
            refine ge ?_
            refine n_store_box ?_
            refine gq ?_
            refine n_assign ?_
            refine m_nil ?_
            exact k_out [(1007, 1007)] hB h
          refine ge ?_
          refine n_store_box ?_
          refine gq ?_
          refine n_extract ?_
          refine gq ?_
          refine n_assign ?_
          refine m_nil ?_
          exact k_out [(1007, 1007)] hB h
        refine ge ?_
        refine n_alloc ?_
        refine m_frz 1029 ?_
        refine ge ?_
        refine n_call h (fun _ => call_Do_ok) (fun v5 _ h => ?_)
        refine gq ?_
        refine n_move ?_
        refine gq ?_
        refine n_extract ?_
        refine m_alt ?_ ?_
        · refine geq ?_
          refine n_extract ?_
          refine ge ?_
          refine n_store_box ?_
          refine gq ?_
          refine n_assign ?_
          refine m_nil ?_
          exact k_out [(1007, 1007)] hB h
        refine ge ?_
        refine n_store_box ?_
        refine gq ?_
        refine n_extract ?_
        refine gq ?_
        refine n_assign ?_
        refine m_nil ?_
        exact k_out [(1007, 1007)] hB h
      refine ge ?_
      refine n_alloc ?_
      refine ge ?_
      refine n_lit (e := c_TValue) [v4, v3.1] ?_
      refine m_frz 1029 ?_
      refine ge ?_
      refine n_call h (fun _ => call_Do_ok) (fun v5 _ h => ?_)
      refine gq ?_
      refine n_move ?_
      refine gq ?_
      refine n_extract ?_
      refine m_alt ?_ ?_
      · refine geq ?_
        refine n_extract ?_
        refine ge ?_
        refine n_store_box ?_
        refine gq ?_
        refine n_assign ?_
        refine m_nil ?_
        exact k_out [(1007, 1007)] hB h
      refine ge ?_
      refine n_store_box ?_
      refine gq ?_
      refine n_extract ?_
      refine gq ?_
      refine n_assign ?_
      refine m_nil ?_
      exact k_out [(1007, 1007)] hB h
    refine ge ?_
    refine n_alloc ?_
    refine ge ?_
    refine n_call h (fun _ => value_OfText_ok) (fun v4 _ h => ?_)
    refine ge ?_
    refine n_lit (e := c_TValue) [v4, v3.1] ?_
    refine m_frz 1029 ?_
    refine ge ?_
    refine n_call h (fun _ => call_Do_ok) (fun v5 _ h => ?_)
    refine gq ?_
    refine n_move ?_
    refine gq ?_
    refine n_extract ?_
    refine m_alt ?_ ?_
    · refine geq ?_
      refine n_extract ?_
      refine ge ?_
      refine n_store_box ?_
      refine gq ?_
      refine n_assign ?_
      refine m_nil ?_
      exact k_out [(1007, 1007)] hB h
    refine ge ?_
    refine n_store_box ?_
    refine gq ?_
    refine n_extract ?_
    refine gq ?_
    refine n_assign ?_
    refine m_nil ?_
    exact k_out [(1007, 1007)] hB h
  refine f_t ?_
  refine k_seq ?_
  refine k_reg ?_
  refine l_move ?_
  refine l_cmp ?_
  refine l_move ?_
  refine l_split h (fun _ h => ?_) (fun _ h => ?_)
  · refine l_on ?_
    refine l_move ?_
    refine l_on ?_
    refine l_cmp ?_
    refine l_pick_true ?_
    refine l_move ?_
    refine l_split h (fun _ h => ?_) (fun _ h => ?_)
    · refine l_on ?_
      refine l_move ?_
      refine l_on ?_
      refine l_cmp ?_
      refine l_pick_true ?_
      refine l_move ?_
      refine l_split h (fun _ h => ?_) (fun _ h => ?_)
      · refine l_on ?_
        refine l_fieldAddr ?_
        refine l_on ?_
        refine l_load ?_
        refine l_on ?_
        refine l_seq ?_
        refine l_pick_true ?_
        refine l_move ?_
        refine l_split h (fun _ h => ?_) (fun _ h => ?_)
        · refine l_on ?_
          refine l_call h (fun _ => call_Is_ok) (fun v7 _ h => ?_)
          refine l_pick_true ?_
          refine l_assign ?_
          refine k_nil ?_
          refine f_t ?_
          refine k_retc ?_
          apply k_ret [] hB h
        refine l_off ?_
        refine l_pick_false ?_
        refine l_assign ?_
        refine k_nil ?_
        refine f_t ?_
        refine k_retc ?_
        apply k_ret [] hB h
      refine l_off ?_
      refine l_off ?_
      refine l_off ?_
      refine l_pick_false ?_
      refine l_move ?_
      refine l_off ?_
      refine l_pick_false ?_
      refine l_assign ?_
      refine k_nil ?_
      refine f_t ?_
      refine k_retc ?_
      apply k_ret [] hB h
    refine l_off ?_
    refine l_off ?_
    refine l_pick_false ?_
    refine l_move ?_
    refine l_off ?_
    refine l_off ?_
    refine l_off ?_
    refine l_pick_false ?_
    refine l_move ?_
    refine l_off ?_
    refine l_pick_false ?_
    refine l_assign ?_
    refine k_nil ?_
    refine f_t ?_
    refine k_retc ?_
    apply k_ret [] hB h
  refine l_off ?_
  refine l_off ?_
  refine l_pick_false ?_
  refine l_move ?_
  refine l_off ?_
  refine l_off ?_
  refine l_pick_false ?_
  refine l_move ?_
  refine l_off ?_
  refine l_off ?_
  refine l_off ?_
  refine l_pick_false ?_
  refine l_move ?_
  refine l_off ?_
  refine l_pick_false ?_
  refine l_assign ?_
  refine k_nil ?_
  refine f_t ?_
  refine k_retc ?_
  apply k_ret [] hB h
theorem apostillelaw16_text_ok {s : Str} {r : Str} (h : apostillelaw16_text s = some r) : XSpec Tryz.prog 49 [S s] [] (S r) [] [] := by
  unfold apostillelaw16_text at h
  refine X_of_run Tryz.hU Tryz.func49 (fun _ _ _ hB => ?_)
  refine k_seq ?_
  refine k_reg ?_
  refine l_assign ?_
  refine k_nil ?_
  refine f_t ?_
  refine k_seq ?_
  refine k_reg ?_
  refine l_assign ?_
  refine k_nil ?_
  refine f_t ?_
  refine k_seq ?_
  refine k_seq ?_
  refine k_reg ?_
  refine l_move ?_
  refine l_lens ?_
  refine l_move ?_
  refine k_nil ?_
  refine f_t ?_
  refine k_block ?_
  refine k_nilrow (te := 5) (t := 3) 3003 1 ?_
  refine k_loop (fun y1 => ⟨[(0, S s), (3, .sl 3003 0 y1.2.length), (6, I (s.length : Int)), (7, I y1.1)], [(3003, .row 5 1 0 (F cU y1.2))], []⟩) (fun q6 => (.exit 0, ⟨[(3, .sl 3003 0 q6.length)], [(3003, .row 5 1 0 (F cU q6))], []⟩)) [(3003, 3003)] hB h (fun y1 t h => ?_) (fun q6 h => ?_)
  · unfold apostillelaw16_text_b1 at h
    refine k_seq ?_
    refine k_reg ?_
    refine l_cmp ?_
    refine k_nil ?_
    refine f_t ?_
    refine k_seq ?_
    refine k_if h (fun _ h => ?_) (fun _ h => ?_)
    · refine k_skip ?_
      refine f_t ?_
      refine k_seq ?_
      refine k_block ?_
      refine k_seq ?_
      refine k_reg ?_
      refine l_move ?_
      refine l_assign ?_
      refine k_nil ?_
      refine f_t ?_
      refine k_seq ?_
      refine k_reg ?_
      refine l_move ?_
      refine l_move ?_
      refine l_ats h (fun v2 _ h => ?_)
      refine l_cmp ?_
      refine l_move ?_
      refine l_split h (fun _ h => ?_) (fun _ h => ?_)
      · refine l_on ?_
        refine l_move ?_
        refine l_on ?_
        refine l_move ?_
        refine l_on ?_
        refine l_ats h (fun v3 _ h => ?_)
        refine l_on ?_
        refine l_cmp ?_
        refine l_pick_true ?_
        refine k_nil ?_
        refine f_t ?_
        refine k_if h (fun _ h => ?_) (fun _ h => ?_)
        · refine k_reg ?_
          refine l_move ?_
          refine l_move ?_
          refine l_move ?_
          refine l_ats h (fun v4 _ h => ?_)
          refine l_lit (e := cU) [v4] ?_
          refine l_appo h (fun v5 _ h => ?_)
          refine l_assign ?_
          refine k_nil ?_
          refine f_b ?_
          refine f_t ?_
          refine k_reg ?_
          refine l_addw ?_
          refine l_move ?_
          refine k_nil ?_
          exact k_next [(3003, 3003)] hB h
        refine k_skip ?_
        refine f_b ?_
        refine f_t ?_
        refine k_reg ?_
        refine l_addw ?_
        refine l_move ?_
        refine k_nil ?_
        exact k_next [(3003, 3003)] hB h
      refine l_off ?_
      refine l_off ?_
      refine l_off ?_
      refine l_off ?_
      refine l_pick_false ?_
      refine k_nil ?_
      refine f_t ?_
      refine k_f ?_
      refine k_skip ?_
      refine f_b ?_
      refine f_t ?_
      refine k_reg ?_
      refine l_addw ?_
      refine l_move ?_
      refine k_nil ?_
      exact k_next [(3003, 3003)] hB h
    refine k_exit ?_
    refine f_te ?_
    exact k_brk [(3003, 3003)] hB h
  refine f_be ?_
  refine f_t ?_
  refine k_seq ?_
  refine k_reg ?_
  refine l_move ?_
  refine l_bstro ?_
  refine l_assign ?_
  refine k_nil ?_
  refine f_t ?_
  refine k_retc ?_
  apply k_ret [] hB h
theorem apostillelaw16_Raw_Made_ok {r_ : TRaw} {l : (List TNode)} {r : TValue} (h : apostillelaw16_Raw_Made r_ l = some r) : XSpec Tryz.prog 24 [.agg (c_TRaw r_), .vs l.length (F c_TNode l)] [] (.agg (c_TValue r)) [] [] := by
  unfold apostillelaw16_Raw_Made at h
  refine X_of_run Tryz.hU Tryz.func24 (fun _ _ _ hB => ?_)
  refine k_seq ?_
  refine k_reg ?_
  refine l_box ?_
  refine l_alloc ?_
  refine k_nil ?_
  refine f_t ?_
  refine k_seq ?_
  refine k_seq ?_
  refine k_reg ?_
  refine l_fieldAddr ?_
  refine l_load ?_
  refine k_nil ?_
  refine f_t ?_
  refine k_block ?_
  refine k_seq ?_
  refine k_reg ?_
  refine l_cmp ?_
  refine l_assign ?_
  refine k_nil ?_
  refine f_t ?_
  refine k_if h (fun _ h => ?_) (fun _ h => ?_)
  · refine k_seq ?_
    refine k_reg ?_
    refine l_assign ?_
    refine k_nil ?_
    refine f_t ?_
    refine k_seq ?_
    refine k_seq ?_
    refine k_reg ?_
    refine l_fieldAddr ?_
    refine l_load ?_
    refine l_len ?_
    refine l_move ?_
    refine k_nil ?_
    refine f_t ?_
    refine k_block ?_
    refine k_nilrow (te := 29) (t := 5) 3005 3 ?_
    refine k_loop (fun y1 => ⟨[(1, .vs l.length (F c_TNode l)), (2, .ptr 1002 0), (4, .ptr 1004 0), (5, .sl 3005 0 0), (13, I (r_.Set.length : Int)), (14, I 0)], [(1002, .box 42 [U r_.Kind, .vs r_.Set.length (F c_TPoint r_.Set), B r_.Bool_, I r_.N, B r_.NaN, S r_.Text]), (1004, .box 40 [I 0, .pl (.slice none 0 0), B false, I 0, B false, S []]), (3005, .row 29 3 0 (F c_TPoint []))], []⟩) (fun q3 => (.exit 1, ⟨[(4, .ptr 1004 0), (5, .sl 3005 0 0)], [(1004, .box 40 [I 0, .pl (.slice none 0 0), B false, I 0, B false, S []]), (3005, .row 29 3 0 (F c_TPoint []))], []⟩)) [(1002, 1002), (1004, 1004), (3005, 3005)] hB h (fun y1 t h => ?_) (fun q3 h => ?_)
    · unfold apostillelaw16_Raw_Made_b1 at h
      refine k_seq ?_
      refine k_reg ?_
      refine l_cmp ?_
      refine k_nil ?_
      refine f_t ?_
      refine k_seq ?_
      refine k_if h (fun _ h => ?_) (fun _ h => ?_)
      · refine k_skip ?_
        refine f_t ?_
        refine k_seq ?_
        refine k_block ?_
        refine k_seq ?_
        refine k_reg ?_
        refine l_move ?_
        refine l_assign ?_
        refine k_nil ?_
        refine f_t ?_
        refine k_seq ?_
        refine k_reg ?_
        refine l_move ?_
        refine l_fieldAddr ?_
        refine l_load ?_
        refine l_move ?_
        cases h
      refine k_exit ?_
      refine f_te ?_
      exact k_brk [(1004, 1004), (3005, 3005)] hB h
    refine f_be ?_
    refine f_t ?_
    refine k_seq ?_
    refine k_reg ?_
    refine l_move ?_
    cases h
  refine k_seq ?_
  refine k_reg ?_
  refine l_cmp ?_
  refine l_assign ?_
  refine k_nil ?_
  refine f_t ?_
  refine k_if h (fun _ h => ?_) (fun _ h => ?_)
  · refine k_seq ?_
    refine k_reg ?_
    refine l_fieldAddr ?_
    refine l_load ?_
    refine l_build ?_
    refine l_store_box ?_
    refine k_nil ?_
    refine f_t ?_
    refine k_retc ?_
    refine f_br ?_
    refine f_tr ?_
    apply k_retN [] hB h
  refine k_seq ?_
  refine k_reg ?_
  refine l_cmp ?_
  refine l_assign ?_
  refine k_nil ?_
  refine f_t ?_
  refine k_if h (fun _ h => ?_) (fun _ h => ?_)
  · refine k_seq ?_
    refine k_seq ?_
    refine k_reg ?_
    refine l_fieldAddr ?_
    refine l_load ?_
    refine k_nil ?_
    refine f_t ?_
    refine k_if h (fun _ h => ?_) (fun _ h => ?_)
    · refine k_seq ?_
      refine k_reg ?_
      refine l_build ?_
      refine l_store_box ?_
      refine k_nil ?_
      refine f_t ?_
      refine k_retc ?_
      refine f_tr ?_
      refine f_br ?_
      refine f_tr ?_
      apply k_retN [] hB h
    refine k_skip ?_
    refine f_t ?_
    refine k_seq ?_
    refine k_reg ?_
    refine l_fieldAddr ?_
    refine l_load ?_
    refine l_remC ?_
    refine l_build ?_
    refine l_store_box ?_
    refine k_nil ?_
    refine f_t ?_
    refine k_retc ?_
    refine f_br ?_
    refine f_tr ?_
    apply k_retN [] hB h
  refine k_skip ?_
  refine f_b ?_
  refine f_t ?_
  refine k_seq ?_
  refine k_reg ?_
  refine l_fieldAddr ?_
  refine l_load ?_
  refine l_call h (fun _ => apostillelaw16_text_ok) (fun v4 _ h => ?_)
  refine l_build ?_
  refine l_store_box ?_
  refine k_nil ?_
  refine f_t ?_
  refine k_retc ?_
  apply k_retN [] hB h
end Go.Proofs.YtipbfnjpfmmkfaaGreatDoor
