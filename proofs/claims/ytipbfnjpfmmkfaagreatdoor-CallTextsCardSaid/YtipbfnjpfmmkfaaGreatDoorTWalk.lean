/-
  WALKS, printed by aw.py: that the program's functions compute the plain ones. Conditions: none.
-/
import Derived.Test.YtipbfnjpfmmkfaaGreatDoorTWalk3
set_option linter.unusedVariables false
set_option linter.unusedSimpArgs false
set_option maxRecDepth 20000
set_option maxHeartbeats 4000000
namespace Go.Proofs.YtipbfnjpfmmkfaaGreatDoor
open Go Go.Abs W G
theorem apostillelaw17_CallCuts_ok {s : Str} {t_ : Str} {r : Bool} (h : apostillelaw17_CallCuts s t_ = some r) : XSpec Tryz.prog 6 [S s, S t_] [] (B r) [] [] := by
  unfold apostillelaw17_CallCuts at h
  refine X_of_run Tryz.hU Tryz.func6 (fun _ _ _ hB => ?_)
  refine k_seq ?_
  refine k_reg ?_
  refine l_assign ?_
  refine k_nil ?_
  refine f_t ?_
  refine k_seq ?_
  refine k_seq ?_
  refine k_cut (fun q2 => (.normal, ⟨[(0, S s), (1, S t_), (26, B q2)], [], []⟩)) h (fun t h => ?_) (fun q2 h => ?_)
  · refine k_reg ?_
    refine l_call h (fun _ => apostillelaw17_awake_ok) (fun v1 _ h => ?_)
    refine l_un ?_
    refine l_move ?_
    refine l_split h (fun _ h => ?_) (fun _ h => ?_)
    · refine l_off ?_
      refine l_off ?_
      refine l_off ?_
      refine l_pick_true ?_
      refine l_move ?_
      refine l_off ?_
      refine l_off ?_
      refine l_off ?_
      refine l_pick_true ?_
      refine k_nil ?_
      exact k_out [] hB h
    refine l_on ?_
    refine l_move ?_
    refine l_on ?_
    refine l_lens ?_
    refine l_on ?_
    refine l_cmp ?_
    refine l_pick_false ?_
    refine l_move ?_
    refine l_split h (fun _ h => ?_) (fun _ h => ?_)
    · refine l_off ?_
      refine l_off ?_
      refine l_off ?_
      refine l_pick_true ?_
      refine k_nil ?_
      exact k_out [] hB h
    refine l_on ?_
    refine l_move ?_
    refine l_on ?_
    refine l_lens ?_
    refine l_on ?_
    refine l_cmp ?_
    refine l_pick_false ?_
    refine k_nil ?_
    exact k_out [] hB h
  refine f_t ?_
  refine k_if h (fun _ h => ?_) (fun _ h => ?_)
  · refine k_seq ?_
    refine k_reg ?_
    refine l_call h (fun _ => apostillelaw17_awake_ok) (fun v3 _ h => ?_)
    refine l_assign ?_
    refine k_nil ?_
    refine f_t ?_
    refine k_retc ?_
    refine f_tr ?_
    apply k_ret [] hB h
  refine k_skip ?_
  refine f_t ?_
  refine k_seq ?_
  refine k_reg ?_
  refine l_move ?_
  refine l_build ?_
  refine l_callN h (fun _ => apostillelaw16_Raw_Made_ok) (fun v4 _ h => ?_)
  refine l_field ?_
  refine l_move ?_
  refine l_build ?_
  refine l_callN h (fun _ => apostillelaw16_Raw_Made_ok) (fun v5 _ h => ?_)
  refine l_to [] ⟨[(31, S v4.Text), (34, .agg (c_TValue v5))], [], []⟩ hB ?_
  refine l_field ?_
  refine l_assign ?_
  refine l_assign ?_
  refine k_nil ?_
  refine f_t ?_
  refine k_seq ?_
  refine k_reg ?_
  refine l_litb [60, 97, 47, 62] ?_
  refine l_frz 1037 ?_
  refine l_call h (fun _ => parse_Parse_ok) (fun v6 _ h => ?_)
  refine l_move ?_
  refine l_extract ?_
  refine l_extract ?_
  refine l_assign ?_
  refine l_assign ?_
  refine k_nil ?_
  refine f_t ?_
  refine k_seq ?_
  refine k_reg ?_
  refine l_move ?_
  refine l_call h (fun _ => ident_Of_ok) (fun v7 _ h => ?_)
  refine l_move ?_
  refine l_extract ?_
  refine l_extract ?_
  refine l_assign ?_
  refine l_assign ?_
  refine k_nil ?_
  refine f_t ?_
  refine k_seq ?_
  refine k_reg ?_
  refine l_move ?_
  refine l_build ?_
  refine l_move ?_
  refine l_call h (fun _ => value_OfText_ok) (fun v8 _ h => ?_)
  refine l_move ?_
  refine l_call h (fun _ => value_OfText_ok) (fun v9 _ h => ?_)
  refine l_to [] ⟨[(0, S v4.Text), (1, S v5.Text), (7, oP c_TIndex v7.1), (48, oP c_TIndex v7.1), (49, .agg [I 0, I 0, I 0, I 0, I 0]), (51, .agg (c_TValue v8)), (53, .agg (c_TValue v9))], [], []⟩ hB ?_
  refine l_lit (e := c_TValue) [v8, v9] ?_
  refine l_frz 1054 ?_
  refine l_call h (fun _ => call_Do_ok) (fun v10 _ h => ?_)
  refine l_move ?_
  refine l_extract ?_
  refine l_extract ?_
  refine l_alloc ?_
  refine l_store_box ?_
  refine l_assign ?_
  refine k_nil ?_
  refine f_t ?_
  refine k_seq ?_
  refine k_reg ?_
  refine l_move ?_
  refine l_build ?_
  refine l_move ?_
  refine l_call h (fun _ => value_OfText_ok) (fun v11 _ h => ?_)
  refine l_move ?_
  refine l_call h (fun _ => value_OfText_ok) (fun v12 _ h => ?_)
  refine l_to [(1009, 1009)] ⟨[(0, S v4.Text), (1, S v5.Text), (7, oP c_TIndex v7.1), (9, .ptr 1009 0), (10, I v10.2), (59, oP c_TIndex v7.1), (60, .agg [I 0, I 0, I 0, I 0, I 0]), (62, .agg (c_TValue v11)), (64, .agg (c_TValue v12))], [(1009, .box 40 [I v10.1.Kind, .vs v10.1.Set.length (F c_TPoint v10.1.Set), B v10.1.Bool_, I v10.1.N, B v10.1.NaN, S v10.1.Text])], []⟩ hB ?_
  refine l_lit (e := c_TValue) [v11, v12] ?_
  refine l_frz 1065 ?_
  refine l_call h (fun _ => call_Do_ok) (fun v13 _ h => ?_)
  refine l_move ?_
  refine l_extract ?_
  refine l_extract ?_
  refine l_alloc ?_
  refine l_store_box ?_
  refine l_assign ?_
  refine k_nil ?_
  refine f_t ?_
  refine k_seq ?_
  refine k_reg ?_
  refine l_move ?_
  refine l_build ?_
  refine l_move ?_
  refine l_call h (fun _ => value_OfText_ok) (fun v14 _ h => ?_)
  refine l_move ?_
  refine l_call h (fun _ => value_OfText_ok) (fun v15 _ h => ?_)
  refine l_to [(1009, 1009), (1011, 1011)] ⟨[(0, S v4.Text), (1, S v5.Text), (9, .ptr 1009 0), (10, I v10.2), (11, .ptr 1011 0), (12, I v13.2), (70, oP c_TIndex v7.1), (71, .agg [I 0, I 0, I 0, I 0, I 0]), (73, .agg (c_TValue v14)), (75, .agg (c_TValue v15))], [(1009, .box 40 [I v10.1.Kind, .vs v10.1.Set.length (F c_TPoint v10.1.Set), B v10.1.Bool_, I v10.1.N, B v10.1.NaN, S v10.1.Text]), (1011, .box 40 [I v13.1.Kind, .vs v13.1.Set.length (F c_TPoint v13.1.Set), B v13.1.Bool_, I v13.1.N, B v13.1.NaN, S v13.1.Text])], []⟩ hB ?_
  refine l_lit (e := c_TValue) [v14, v15] ?_
  refine l_frz 1076 ?_
  refine l_call h (fun _ => call_Do_ok) (fun v16 _ h => ?_)
  refine l_move ?_
  refine l_extract ?_
  refine l_extract ?_
  refine l_alloc ?_
  refine l_store_box ?_
  refine l_assign ?_
  refine k_nil ?_
  refine f_t ?_
  refine k_seq ?_
  refine k_seq ?_
  refine k_cut (fun q17 => (.normal, ⟨[(0, S v4.Text), (1, S v5.Text), (9, .ptr 1009 0), (11, .ptr 1011 0), (13, .ptr 1013 0), (89, B q17)], [(1009, .box 40 [I v10.1.Kind, .vs v10.1.Set.length (F c_TPoint v10.1.Set), B v10.1.Bool_, I v10.1.N, B v10.1.NaN, S v10.1.Text]), (1011, .box 40 [I v13.1.Kind, .vs v13.1.Set.length (F c_TPoint v13.1.Set), B v13.1.Bool_, I v13.1.N, B v13.1.NaN, S v13.1.Text]), (1013, .box 40 [I v16.1.Kind, .vs v16.1.Set.length (F c_TPoint v16.1.Set), B v16.1.Bool_, I v16.1.N, B v16.1.NaN, S v16.1.Text])], []⟩)) h (fun t h => ?_) (fun q17 h => ?_)
  · refine k_reg ?_
    refine l_move ?_
    refine l_cmp ?_
    refine l_move ?_
    refine l_split h (fun _ h => ?_) (fun _ h => ?_)
    · refine l_off ?_
      refine l_off ?_
      refine l_pick_true ?_
      refine l_move ?_
      refine l_off ?_
      refine l_off ?_
      refine l_pick_true ?_
      refine k_nil ?_
      exact k_out [(1009, 1009), (1011, 1011), (1013, 1013)] hB h
    refine l_on ?_
    refine l_move ?_
    refine l_on ?_
    refine l_cmp ?_
    refine l_pick_false ?_
    refine l_move ?_
    refine l_split h (fun _ h => ?_) (fun _ h => ?_)
    · refine l_off ?_
      refine l_off ?_
      refine l_pick_true ?_
      refine k_nil ?_
      exact k_out [(1009, 1009), (1011, 1011), (1013, 1013)] hB h
    refine l_on ?_
    refine l_move ?_
    refine l_on ?_
    refine l_cmp ?_
    refine l_pick_false ?_
    refine k_nil ?_
    exact k_out [(1009, 1009), (1011, 1011), (1013, 1013)] hB h
  refine f_t ?_
  refine k_if h (fun _ h => ?_) (fun _ h => ?_)
  · refine k_seq ?_
    refine k_reg ?_
    refine l_assign ?_
    refine k_nil ?_
    refine f_t ?_
    refine k_retc ?_
    refine f_tr ?_
    apply k_ret [] hB h
  refine k_skip ?_
  refine f_t ?_
  refine k_seq ?_
  refine k_reg ?_
  refine l_fieldAddr ?_
  refine l_load ?_
  refine l_move ?_
  refine l_split h (fun _ h => ?_) (fun _ h => ?_)
  · refine l_on ?_
    refine l_fieldAddr ?_
    refine l_on ?_
    refine l_load ?_
    refine l_on ?_
    refine l_move ?_
    refine l_on ?_
    refine l_cat h (fun v18 _ h => ?_)
    refine l_on ?_
    refine l_fieldAddr ?_
    refine l_on ?_
    refine l_load ?_
    refine l_on ?_
    refine l_cat h (fun v19 _ h => ?_)
    refine l_on ?_
    refine l_move ?_
    refine l_on ?_
    refine l_seq ?_
    refine l_pick_true ?_
    refine l_move ?_
    refine l_split h (fun _ h => ?_) (fun _ h => ?_)
    · refine l_off ?_
      refine l_off ?_
      refine l_off ?_
      refine l_off ?_
      refine l_off ?_
      refine l_off ?_
      refine l_off ?_
      refine l_off ?_
      refine l_off ?_
      refine l_off ?_
      refine l_off ?_
      refine l_off ?_
      refine l_off ?_
      refine l_pick_true ?_
      refine l_assign ?_
      refine k_nil ?_
      refine f_t ?_
      refine k_retc ?_
      apply k_ret [] hB h
    refine l_on ?_
    refine l_fieldAddr ?_
    refine l_on ?_
    refine l_load ?_
    refine l_on ?_
    refine l_un ?_
    refine l_on ?_
    refine l_move ?_
    refine l_split h (fun _ h => ?_) (fun _ h => ?_)
    · refine l_on ?_
      refine l_fieldAddr ?_
      refine l_on ?_
      refine l_load ?_
      refine l_on ?_
      refine l_seq ?_
      refine l_on ?_
      refine l_pick_true ?_
      refine l_on ?_
      refine l_move ?_
      refine l_split h (fun _ h => ?_) (fun _ h => ?_)
      · refine l_on ?_
        refine l_fieldAddr ?_
        refine l_on ?_
        refine l_load ?_
        refine l_on ?_
        refine l_seq ?_
        refine l_on ?_
        refine l_pick_true ?_
        refine l_pick_false ?_
        refine l_assign ?_
        refine k_nil ?_
        refine f_t ?_
        refine k_retc ?_
        apply k_ret [] hB h
      refine l_off ?_
      refine l_off ?_
      refine l_off ?_
      refine l_on ?_
      refine l_pick_false ?_
      refine l_pick_false ?_
      refine l_assign ?_
      refine k_nil ?_
      refine f_t ?_
      refine k_retc ?_
      apply k_ret [] hB h
    refine l_off ?_
    refine l_off ?_
    refine l_off ?_
    refine l_on ?_
    refine l_pick_false ?_
    refine l_on ?_
    refine l_move ?_
    refine l_off ?_
    refine l_off ?_
    refine l_off ?_
    refine l_on ?_
    refine l_pick_false ?_
    refine l_pick_false ?_
    refine l_assign ?_
    refine k_nil ?_
    refine f_t ?_
    refine k_retc ?_
    apply k_ret [] hB h
  refine l_off ?_
  refine l_off ?_
  refine l_off ?_
  refine l_off ?_
  refine l_off ?_
  refine l_off ?_
  refine l_off ?_
  refine l_off ?_
  refine l_off ?_
  refine l_pick_false ?_
  refine l_move ?_
  refine l_on ?_
  refine l_fieldAddr ?_
  refine l_on ?_
  refine l_load ?_
  refine l_on ?_
  refine l_un ?_
  refine l_on ?_
  refine l_move ?_
  refine l_split h (fun _ h => ?_) (fun _ h => ?_)
  · refine l_on ?_
    refine l_fieldAddr ?_
    refine l_on ?_
    refine l_load ?_
    refine l_on ?_
    refine l_seq ?_
    refine l_on ?_
    refine l_pick_true ?_
    refine l_on ?_
    refine l_move ?_
    refine l_split h (fun _ h => ?_) (fun _ h => ?_)
    · refine l_on ?_
      refine l_fieldAddr ?_
      refine l_on ?_
      refine l_load ?_
      refine l_on ?_
      refine l_seq ?_
      refine l_on ?_
      refine l_pick_true ?_
      refine l_pick_false ?_
      refine l_assign ?_
      refine k_nil ?_
      refine f_t ?_
      refine k_retc ?_
      apply k_ret [] hB h
    refine l_off ?_
    refine l_off ?_
    refine l_off ?_
    refine l_on ?_
    refine l_pick_false ?_
    refine l_pick_false ?_
    refine l_assign ?_
    refine k_nil ?_
    refine f_t ?_
    refine k_retc ?_
    apply k_ret [] hB h
  refine l_off ?_
  refine l_off ?_
  refine l_off ?_
  refine l_on ?_
  refine l_pick_false ?_
  refine l_on ?_
  refine l_move ?_
  refine l_off ?_
  refine l_off ?_
  refine l_off ?_
  refine l_on ?_
  refine l_pick_false ?_
  refine l_pick_false ?_
  refine l_assign ?_
  refine k_nil ?_
  refine f_t ?_
  refine k_retc ?_
  apply k_ret [] hB h
theorem apostillelaw17_CallTexts_ok {s : Str} {t_ : Str} {r : Bool} (h : apostillelaw17_CallTexts s t_ = some r) : XSpec Tryz.prog 8 [S s, S t_] [] (B r) [] [] := by
  unfold apostillelaw17_CallTexts at h
  refine X_of_run Tryz.hU Tryz.func8 (fun _ _ _ hB => ?_)
  refine k_seq ?_
  refine k_reg ?_
  refine l_assign ?_
  refine k_nil ?_
  refine f_t ?_
  refine k_seq ?_
  refine k_seq ?_
  refine k_cut (fun q2 => (.normal, ⟨[(0, S s), (1, S t_), (33, B q2)], [], []⟩)) h (fun t h => ?_) (fun q2 h => ?_)
  · refine k_reg ?_
    refine l_call h (fun _ => apostillelaw17_awake_ok) (fun v1 _ h => ?_)
    refine l_un ?_
    refine l_move ?_
    refine l_split h (fun _ h => ?_) (fun _ h => ?_)
    · refine l_off ?_
      refine l_off ?_
      refine l_off ?_
      refine l_off ?_
      refine l_off ?_
      refine l_off ?_
      refine l_pick_true ?_
      refine k_nil ?_
      exact k_out [] hB h
    refine l_on ?_
    refine l_move ?_
    refine l_on ?_
    refine l_lens ?_
    refine l_on ?_
    refine l_move ?_
    refine l_on ?_
    refine l_lens ?_
    refine l_on ?_
    refine l_addw ?_
    refine l_on ?_
    refine l_cmp ?_
    refine l_pick_false ?_
    refine k_nil ?_
    exact k_out [] hB h
  refine f_t ?_
  refine k_if h (fun _ h => ?_) (fun _ h => ?_)
  · refine k_seq ?_
    refine k_reg ?_
    refine l_call h (fun _ => apostillelaw17_awake_ok) (fun v3 _ h => ?_)
    refine l_assign ?_
    refine k_nil ?_
    refine f_t ?_
    refine k_retc ?_
    refine f_tr ?_
    apply k_ret [] hB h
  refine k_skip ?_
  refine f_t ?_
  refine k_seq ?_
  refine k_reg ?_
  refine l_move ?_
  refine l_build ?_
  refine l_callN h (fun _ => apostillelaw16_Raw_Made_ok) (fun v4 _ h => ?_)
  refine l_field ?_
  refine l_move ?_
  refine l_build ?_
  refine l_callN h (fun _ => apostillelaw16_Raw_Made_ok) (fun v5 _ h => ?_)
  refine l_to [] ⟨[(38, S v4.Text), (41, .agg (c_TValue v5))], [], []⟩ hB ?_
  refine l_field ?_
  refine l_assign ?_
  refine l_assign ?_
  refine k_nil ?_
  refine f_t ?_
  refine k_seq ?_
  refine k_reg ?_
  refine l_litb [60, 97, 47, 62] ?_
  refine l_frz 1044 ?_
  refine l_call h (fun _ => parse_Parse_ok) (fun v6 _ h => ?_)
  refine l_move ?_
  refine l_extract ?_
  refine l_extract ?_
  refine l_assign ?_
  refine l_assign ?_
  refine k_nil ?_
  refine f_t ?_
  refine k_seq ?_
  refine k_reg ?_
  refine l_move ?_
  refine l_call h (fun _ => ident_Of_ok) (fun v7 _ h => ?_)
  refine l_move ?_
  refine l_extract ?_
  refine l_extract ?_
  refine l_assign ?_
  refine l_assign ?_
  refine k_nil ?_
  refine f_t ?_
  refine k_seq ?_
  refine k_reg ?_
  refine l_move ?_
  refine l_call h (fun _ => value_OfText_ok) (fun v8 _ h => ?_)
  refine l_move ?_
  refine l_call h (fun _ => value_OfText_ok) (fun v9 _ h => ?_)
  refine l_to [] ⟨[(0, S v4.Text), (1, S v5.Text), (7, oP c_TIndex v7.1), (55, .agg (c_TValue v8)), (57, .agg (c_TValue v9))], [], []⟩ hB ?_
  refine l_alloc ?_
  refine l_alloc ?_
  refine l_store_box ?_
  refine l_store_box ?_
  refine k_nil ?_
  refine f_t ?_
  refine k_seq ?_
  refine k_reg ?_
  refine l_move ?_
  refine l_build ?_
  refine l_load_agg ?_
  refine l_load_agg ?_
  refine l_lit (e := c_TValue) [v8, v9] ?_
  refine l_frz 1063 ?_
  refine l_call h (fun _ => call_Do_ok) (fun v10 _ h => ?_)
  refine l_move ?_
  refine l_extract ?_
  refine l_extract ?_
  refine l_alloc ?_
  refine l_store_box ?_
  refine l_assign ?_
  refine k_nil ?_
  refine f_t ?_
  refine k_seq ?_
  refine k_reg ?_
  refine l_move ?_
  refine l_build ?_
  refine l_load_agg ?_
  refine l_lit (e := c_TValue) [v10.1] ?_
  refine l_frz 1071 ?_
  refine l_call h (fun _ => call_Do_ok) (fun v11 _ h => ?_)
  refine l_move ?_
  refine l_extract ?_
  refine l_extract ?_
  refine l_alloc ?_
  refine l_store_box ?_
  refine l_assign ?_
  refine k_nil ?_
  refine f_t ?_
  refine k_seq ?_
  refine k_reg ?_
  refine l_move ?_
  refine l_build ?_
  refine l_load_agg ?_
  refine l_load_agg ?_
  refine l_lit (e := c_TValue) [v10.1, v8] ?_
  refine l_frz 1080 ?_
  refine l_call h (fun _ => call_Do_ok) (fun v12 _ h => ?_)
  refine l_move ?_
  refine l_extract ?_
  refine l_extract ?_
  refine l_alloc ?_
  refine l_store_box ?_
  refine l_assign ?_
  refine k_nil ?_
  refine f_t ?_
  refine k_seq ?_
  refine k_reg ?_
  refine l_move ?_
  refine l_build ?_
  refine l_load_agg ?_
  refine l_load_agg ?_
  refine l_lit (e := c_TValue) [v10.1, v9] ?_
  refine l_frz 1089 ?_
  refine l_call h (fun _ => call_Do_ok) (fun v13 _ h => ?_)
  refine l_move ?_
  refine l_extract ?_
  refine l_extract ?_
  refine l_alloc ?_
  refine l_store_box ?_
  refine l_assign ?_
  refine k_nil ?_
  refine f_t ?_
  refine k_seq ?_
  refine k_reg ?_
  refine l_move ?_
  refine l_build ?_
  refine l_load_agg ?_
  refine l_lit (e := c_TValue) [v10.1] ?_
  refine l_frz 1097 ?_
  refine l_call h (fun _ => call_Do_ok) (fun v14 _ h => ?_)
  refine l_move ?_
  refine l_extract ?_
  refine l_extract ?_
  refine l_alloc ?_
  refine l_store_box ?_
  refine l_assign ?_
  refine k_nil ?_
  refine f_t ?_
  refine k_seq ?_
  refine k_reg ?_
  refine l_move ?_
  refine l_build ?_
  refine l_load_agg ?_
  refine l_lit (e := c_TValue) [v14.1] ?_
  refine l_frz 1105 ?_
  refine l_call h (fun _ => call_Do_ok) (fun v15 _ h => ?_)
  refine l_move ?_
  refine l_extract ?_
  refine l_extract ?_
  refine l_alloc ?_
  refine l_store_box ?_
  refine l_assign ?_
  refine k_nil ?_
  refine f_t ?_
  refine k_seq ?_
  refine k_cut (fun q16 => (.normal, ⟨[(0, S v4.Text), (1, S v5.Text), (11, .ptr 1011 0), (13, .ptr 1013 0), (15, .ptr 1015 0), (17, .ptr 1017 0), (19, .ptr 1019 0), (21, .ptr 1021 0), (23, B q16)], [(1011, .box 40 [I v10.1.Kind, .vs v10.1.Set.length (F c_TPoint v10.1.Set), B v10.1.Bool_, I v10.1.N, B v10.1.NaN, S v10.1.Text]), (1013, .box 40 [I v11.1.Kind, .vs v11.1.Set.length (F c_TPoint v11.1.Set), B v11.1.Bool_, I v11.1.N, B v11.1.NaN, S v11.1.Text]), (1015, .box 40 [I v12.1.Kind, .vs v12.1.Set.length (F c_TPoint v12.1.Set), B v12.1.Bool_, I v12.1.N, B v12.1.NaN, S v12.1.Text]), (1017, .box 40 [I v13.1.Kind, .vs v13.1.Set.length (F c_TPoint v13.1.Set), B v13.1.Bool_, I v13.1.N, B v13.1.NaN, S v13.1.Text]), (1019, .box 40 [I v14.1.Kind, .vs v14.1.Set.length (F c_TPoint v14.1.Set), B v14.1.Bool_, I v14.1.N, B v14.1.NaN, S v14.1.Text]), (1021, .box 40 [I v15.1.Kind, .vs v15.1.Set.length (F c_TPoint v15.1.Set), B v15.1.Bool_, I v15.1.N, B v15.1.NaN, S v15.1.Text])], []⟩)) h (fun t h => ?_) (fun q16 h => ?_)
  · refine k_reg ?_
    refine l_move ?_
    refine l_cmp ?_
    refine l_move ?_
    refine l_split h (fun _ h => ?_) (fun _ h => ?_)
    · refine l_on ?_
      refine l_move ?_
      refine l_on ?_
      refine l_cmp ?_
      refine l_pick_true ?_
      refine l_move ?_
      refine l_split h (fun _ h => ?_) (fun _ h => ?_)
      · refine l_on ?_
        refine l_move ?_
        refine l_on ?_
        refine l_cmp ?_
        refine l_pick_true ?_
        refine l_move ?_
        refine l_split h (fun _ h => ?_) (fun _ h => ?_)
        · refine l_on ?_
          refine l_move ?_
          refine l_on ?_
          refine l_cmp ?_
          refine l_pick_true ?_
          refine l_move ?_
          refine l_split h (fun _ h => ?_) (fun _ h => ?_)
          · refine l_on ?_
            refine l_move ?_
            refine l_on ?_
            refine l_cmp ?_
            refine l_pick_true ?_
            refine l_move ?_
            refine l_split h (fun _ h => ?_) (fun _ h => ?_)
            · refine l_on ?_
              refine l_move ?_
              refine l_on ?_
              refine l_cmp ?_
              refine l_pick_true ?_
              refine l_assign ?_
              refine k_nil ?_
              exact k_out [(1011, 1011), (1013, 1013), (1015, 1015), (1017, 1017), (1019, 1019), (1021, 1021)] hB h
            refine l_off ?_
            refine l_off ?_
            refine l_pick_false ?_
            refine l_assign ?_
            refine k_nil ?_
            exact k_out [(1011, 1011), (1013, 1013), (1015, 1015), (1017, 1017), (1019, 1019), (1021, 1021)] hB h
          refine l_off ?_
          refine l_off ?_
          refine l_pick_false ?_
          refine l_move ?_
          refine l_off ?_
          refine l_off ?_
          refine l_pick_false ?_
          refine l_assign ?_
          refine k_nil ?_
          exact k_out [(1011, 1011), (1013, 1013), (1015, 1015), (1017, 1017), (1019, 1019), (1021, 1021)] hB h
        refine l_off ?_
        refine l_off ?_
        refine l_pick_false ?_
        refine l_move ?_
        refine l_off ?_
        refine l_off ?_
        refine l_pick_false ?_
        refine l_move ?_
        refine l_off ?_
        refine l_off ?_
        refine l_pick_false ?_
        refine l_assign ?_
        refine k_nil ?_
        exact k_out [(1011, 1011), (1013, 1013), (1015, 1015), (1017, 1017), (1019, 1019), (1021, 1021)] hB h
      refine l_off ?_
      refine l_off ?_
      refine l_pick_false ?_
      refine l_move ?_
      refine l_off ?_
      refine l_off ?_
      refine l_pick_false ?_
      refine l_move ?_
      refine l_off ?_
      refine l_off ?_
      refine l_pick_false ?_
      refine l_move ?_
      refine l_off ?_
      refine l_off ?_
      refine l_pick_false ?_
      refine l_assign ?_
      refine k_nil ?_
      exact k_out [(1011, 1011), (1013, 1013), (1015, 1015), (1017, 1017), (1019, 1019), (1021, 1021)] hB h
    refine l_off ?_
    refine l_off ?_
    refine l_pick_false ?_
    refine l_move ?_
    refine l_off ?_
    refine l_off ?_
    refine l_pick_false ?_
    refine l_move ?_
    refine l_off ?_
    refine l_off ?_
    refine l_pick_false ?_
    refine l_move ?_
    refine l_off ?_
    refine l_off ?_
    refine l_pick_false ?_
    refine l_move ?_
    refine l_off ?_
    refine l_off ?_
    refine l_pick_false ?_
    refine l_assign ?_
    refine k_nil ?_
    exact k_out [(1011, 1011), (1013, 1013), (1015, 1015), (1017, 1017), (1019, 1019), (1021, 1021)] hB h
  refine f_t ?_
  refine k_seq ?_
  refine k_reg ?_
  refine l_move ?_
  refine l_move ?_
  refine l_split h (fun _ h => ?_) (fun _ h => ?_)
  · refine l_on ?_
    refine l_fieldAddr ?_
    refine l_on ?_
    refine l_load ?_
    refine l_on ?_
    refine l_move ?_
    refine l_on ?_
    refine l_move ?_
    refine l_on ?_
    refine l_cat h (fun v17 _ h => ?_)
    refine l_on ?_
    refine l_seq ?_
    refine l_pick_true ?_
    refine l_move ?_
    refine l_split h (fun _ h => ?_) (fun _ h => ?_)
    · refine l_on ?_
      refine l_fieldAddr ?_
      refine l_on ?_
      refine l_load ?_
      refine l_on ?_
      refine l_move ?_
      refine l_on ?_
      refine l_lens ?_
      refine l_on ?_
      refine l_move ?_
      refine l_on ?_
      refine l_lens ?_
      refine l_on ?_
      refine l_addw ?_
      refine l_on ?_
      refine l_cmp ?_
      refine l_pick_true ?_
      refine l_move ?_
      refine l_split h (fun _ h => ?_) (fun _ h => ?_)
      · refine l_on ?_
        refine l_fieldAddr ?_
        refine l_on ?_
        refine l_load ?_
        refine l_pick_true ?_
        refine l_move ?_
        refine l_split h (fun _ h => ?_) (fun _ h => ?_)
        · refine l_on ?_
          refine l_fieldAddr ?_
          refine l_on ?_
          refine l_load ?_
          refine l_pick_true ?_
          refine l_move ?_
          refine l_split h (fun _ h => ?_) (fun _ h => ?_)
          · refine l_on ?_
            refine l_fieldAddr ?_
            refine l_on ?_
            refine l_load ?_
            refine l_on ?_
            refine l_fieldAddr ?_
            refine l_on ?_
            refine l_load ?_
            refine l_on ?_
            refine l_seq ?_
            refine l_pick_true ?_
            refine l_assign ?_
            refine k_nil ?_
            refine f_t ?_
            refine k_retc ?_
            apply k_ret [] hB h
          refine l_off ?_
          refine l_off ?_
          refine l_off ?_
          refine l_off ?_
          refine l_off ?_
          refine l_pick_false ?_
          refine l_assign ?_
          refine k_nil ?_
          refine f_t ?_
          refine k_retc ?_
          apply k_ret [] hB h
        refine l_off ?_
        refine l_off ?_
        refine l_pick_false ?_
        refine l_move ?_
        refine l_off ?_
        refine l_off ?_
        refine l_off ?_
        refine l_off ?_
        refine l_off ?_
        refine l_pick_false ?_
        refine l_assign ?_
        refine k_nil ?_
        refine f_t ?_
        refine k_retc ?_
        apply k_ret [] hB h
      refine l_off ?_
      refine l_off ?_
      refine l_pick_false ?_
      refine l_move ?_
      refine l_off ?_
      refine l_off ?_
      refine l_pick_false ?_
      refine l_move ?_
      refine l_off ?_
      refine l_off ?_
      refine l_off ?_
      refine l_off ?_
      refine l_off ?_
      refine l_pick_false ?_
      refine l_assign ?_
      refine k_nil ?_
      refine f_t ?_
      refine k_retc ?_
      apply k_ret [] hB h
    refine l_off ?_
    refine l_off ?_
    refine l_off ?_
    refine l_off ?_
    refine l_off ?_
    refine l_off ?_
    refine l_off ?_
    refine l_off ?_
    refine l_pick_false ?_
    refine l_move ?_
    refine l_off ?_
    refine l_off ?_
    refine l_pick_false ?_
    refine l_move ?_
    refine l_off ?_
    refine l_off ?_
    refine l_pick_false ?_
    refine l_move ?_
    refine l_off ?_
    refine l_off ?_
    refine l_off ?_
    refine l_off ?_
    refine l_off ?_
    refine l_pick_false ?_
    refine l_assign ?_
    refine k_nil ?_
    refine f_t ?_
    refine k_retc ?_
    apply k_ret [] hB h
  refine l_off ?_
  refine l_off ?_
  refine l_off ?_
  refine l_off ?_
  refine l_off ?_
  refine l_off ?_
  refine l_pick_false ?_
  refine l_move ?_
  refine l_off ?_
  refine l_off ?_
  refine l_off ?_
  refine l_off ?_
  refine l_off ?_
  refine l_off ?_
  refine l_off ?_
  refine l_off ?_
  refine l_pick_false ?_
  refine l_move ?_
  refine l_off ?_
  refine l_off ?_
  refine l_pick_false ?_
  refine l_move ?_
  refine l_off ?_
  refine l_off ?_
  refine l_pick_false ?_
  refine l_move ?_
  refine l_off ?_
  refine l_off ?_
  refine l_off ?_
  refine l_off ?_
  refine l_off ?_
  refine l_pick_false ?_
  refine l_assign ?_
  refine k_nil ?_
  refine f_t ?_
  refine k_retc ?_
  apply k_ret [] hB h
theorem slices_Equal_Point_ok {s1 : (List TPoint)} {s2 : (List TPoint)} {r : Bool} (h : slices_Equal_Point s1 s2 = some r) : XSpec Tryz.prog 60 [.vs s1.length (F c_TPoint s1), .vs s2.length (F c_TPoint s2)] [] (B r) [] [] := by
  unfold slices_Equal_Point at h
  refine X_of_run Tryz.hU Tryz.func60 (fun _ _ _ hB => ?_)
  refine k_seq ?_
  refine k_reg ?_
  refine l_assign ?_
  refine k_nil ?_
  refine f_t ?_
  refine k_seq ?_
  refine k_seq ?_
  refine k_reg ?_
  refine l_move ?_
  refine l_len ?_
  refine l_move ?_
  refine l_len ?_
  refine l_cmp ?_
  refine k_nil ?_
  refine f_t ?_
  refine k_if h (fun _ h => ?_) (fun _ h => ?_)
  · refine k_seq ?_
    refine k_reg ?_
    refine l_assign ?_
    refine k_nil ?_
    refine f_t ?_
    refine k_retc ?_
    refine f_tr ?_
    apply k_ret [] hB h
  refine k_skip ?_
  refine f_t ?_
  refine k_seq ?_
  refine k_seq ?_
  refine k_reg ?_
  refine l_move ?_
  refine l_len ?_
  refine l_move ?_
  refine k_nil ?_
  refine f_t ?_
  refine k_block ?_
  refine k_loop (fun y1 => ⟨[(0, .vs s1.length (F c_TPoint s1)), (1, .vs s2.length (F c_TPoint s2)), (12, I (s1.length : Int)), (13, I y1)], [], []⟩) (Sum.elim (fun q4 => (.ret, ⟨[(4, B false)], [], []⟩)) (fun q5 => (.exit 0, ⟨[], [], []⟩))) [] hB h (fun y1 t h => ?_) (fun q h => ?_)
  · unfold slices_Equal_Point_b1 at h
    refine k_seq ?_
    refine k_reg ?_
    refine l_cmp ?_
    refine k_nil ?_
    refine f_t ?_
    refine k_seq ?_
    refine k_if h (fun _ h => ?_) (fun _ h => ?_)
    · refine k_skip ?_
      refine f_t ?_
      refine k_seq ?_
      refine k_block ?_
      refine k_seq ?_
      refine k_reg ?_
      refine l_move ?_
      refine l_assign ?_
      refine k_nil ?_
      refine f_t ?_
      refine k_seq ?_
      refine k_mix [] (.q 0 (.q 1 (.q 2 (.q 3 (.q 4 (.q 5 (.q 6 (.q 7 (.q 8 (.done)))))))))) hm ?_
      refine gq ?_
      refine n_move ?_
      refine gq ?_
      refine n_move ?_
      refine gq ?_
      refine n_at h (fun v2 _ h => ?_)
      refine gq ?_
      refine n_load_agg ?_
      refine gq ?_
      refine n_move ?_
      refine gq ?_
      refine n_move ?_
      refine gq ?_
      refine n_at h (fun v3 _ h => ?_)
      refine gq ?_
      refine n_load_agg ?_
      refine gq ?_
      refine n_eqs (k := .i64) (TPoint.ints v2) (TPoint.ints v3) hs29 he29 ?_
      refine m_nil ?_
      refine f_t ?_
      refine k_if h (fun _ h => ?_) (fun _ h => ?_)
      · refine k_seq ?_
        refine k_reg ?_
        refine l_assign ?_
        refine k_nil ?_
        refine f_t ?_
        refine k_retc ?_
        refine f_br ?_
        refine f_tr ?_
        exact k_brk [] hB h
      refine k_skip ?_
      refine f_b ?_
      refine f_t ?_
      refine k_reg ?_
      refine l_addw ?_
      refine l_move ?_
      refine k_nil ?_
      exact k_next [] hB h
    refine k_exit ?_
    refine f_te ?_
    exact k_brk [] hB h
  rcases q with q4 | q5
  · dsimp only [Sum.elim] at h ⊢
    refine f_br ?_
    refine f_tr ?_
    apply k_ret [] hB h
  dsimp only [Sum.elim] at h ⊢
  refine f_be ?_
  refine f_t ?_
  refine k_seq ?_
  refine k_reg ?_
  refine l_assign ?_
  refine k_nil ?_
  refine f_t ?_
  refine k_retc ?_
  apply k_ret [] hB h
theorem value_Same_ok {a : TValue} {b : TValue} {r : Bool} (h : value_Same a b = some r) : XSpec Tryz.prog 31 [.agg (c_TValue a), .agg (c_TValue b)] [] (B r) [] [] := by
  unfold value_Same at h
  refine X_of_run Tryz.hU Tryz.func31 (fun _ _ _ hB => ?_)
  refine k_seq ?_
  refine k_reg ?_
  refine l_box ?_
  refine l_box ?_
  refine l_assign ?_
  refine k_nil ?_
  refine f_t ?_
  refine k_seq ?_
  refine k_reg ?_
  refine l_fieldAddr ?_
  refine l_load ?_
  refine l_fieldAddr ?_
  refine l_load ?_
  refine l_cmp ?_
  refine l_move ?_
  refine l_split h (fun _ h => ?_) (fun _ h => ?_)
  · refine l_on ?_
    refine l_fieldAddr ?_
    refine l_on ?_
    refine l_load ?_
    refine l_on ?_
    refine l_fieldAddr ?_
    refine l_on ?_
    refine l_load ?_
    refine l_on ?_
    refine l_call h (fun _ => slices_Equal_Point_ok) (fun v1 _ h => ?_)
    refine l_pick_true ?_
    refine l_move ?_
    refine l_split h (fun _ h => ?_) (fun _ h => ?_)
    · refine l_on ?_
      refine l_fieldAddr ?_
      refine l_on ?_
      refine l_load ?_
      refine l_on ?_
      refine l_fieldAddr ?_
      refine l_on ?_
      refine l_load ?_
      refine l_on ?_
      refine l_bool ?_
      refine l_pick_true ?_
      refine l_move ?_
      refine l_split h (fun _ h => ?_) (fun _ h => ?_)
      · refine l_on ?_
        refine l_fieldAddr ?_
        refine l_on ?_
        refine l_load ?_
        refine l_on ?_
        refine l_fieldAddr ?_
        refine l_on ?_
        refine l_load ?_
        refine l_on ?_
        refine l_cmp ?_
        refine l_pick_true ?_
        refine l_move ?_
        refine l_split h (fun _ h => ?_) (fun _ h => ?_)
        · refine l_on ?_
          refine l_fieldAddr ?_
          refine l_on ?_
          refine l_load ?_
          refine l_on ?_
          refine l_fieldAddr ?_
          refine l_on ?_
          refine l_load ?_
          refine l_on ?_
          refine l_bool ?_
          refine l_pick_true ?_
          refine l_move ?_
          refine l_split h (fun _ h => ?_) (fun _ h => ?_)
          · refine l_on ?_
            refine l_fieldAddr ?_
            refine l_on ?_
            refine l_load ?_
            refine l_on ?_
            refine l_fieldAddr ?_
            refine l_on ?_
            refine l_load ?_
            refine l_on ?_
            refine l_seq ?_
            refine l_pick_true ?_
            refine l_assign ?_
            refine k_nil ?_
            refine f_t ?_
            refine k_retc ?_
            apply k_ret [] hB h
          refine l_off ?_
          refine l_off ?_
          refine l_off ?_
          refine l_off ?_
          refine l_off ?_
          refine l_pick_false ?_
          refine l_assign ?_
          refine k_nil ?_
          refine f_t ?_
          refine k_retc ?_
          apply k_ret [] hB h
        refine l_off ?_
        refine l_off ?_
        refine l_off ?_
        refine l_off ?_
        refine l_off ?_
        refine l_pick_false ?_
        refine l_move ?_
        refine l_off ?_
        refine l_off ?_
        refine l_off ?_
        refine l_off ?_
        refine l_off ?_
        refine l_pick_false ?_
        refine l_assign ?_
        refine k_nil ?_
        refine f_t ?_
        refine k_retc ?_
        apply k_ret [] hB h
      refine l_off ?_
      refine l_off ?_
      refine l_off ?_
      refine l_off ?_
      refine l_off ?_
      refine l_pick_false ?_
      refine l_move ?_
      refine l_off ?_
      refine l_off ?_
      refine l_off ?_
      refine l_off ?_
      refine l_off ?_
      refine l_pick_false ?_
      refine l_move ?_
      refine l_off ?_
      refine l_off ?_
      refine l_off ?_
      refine l_off ?_
      refine l_off ?_
      refine l_pick_false ?_
      refine l_assign ?_
      refine k_nil ?_
      refine f_t ?_
      refine k_retc ?_
      apply k_ret [] hB h
    refine l_off ?_
    refine l_off ?_
    refine l_off ?_
    refine l_off ?_
    refine l_off ?_
    refine l_pick_false ?_
    refine l_move ?_
    refine l_off ?_
    refine l_off ?_
    refine l_off ?_
    refine l_off ?_
    refine l_off ?_
    refine l_pick_false ?_
    refine l_move ?_
    refine l_off ?_
    refine l_off ?_
    refine l_off ?_
    refine l_off ?_
    refine l_off ?_
    refine l_pick_false ?_
    refine l_move ?_
    refine l_off ?_
    refine l_off ?_
    refine l_off ?_
    refine l_off ?_
    refine l_off ?_
    refine l_pick_false ?_
    refine l_assign ?_
    refine k_nil ?_
    refine f_t ?_
    refine k_retc ?_
    apply k_ret [] hB h
  refine l_off ?_
  refine l_off ?_
  refine l_off ?_
  refine l_off ?_
  refine l_off ?_
  refine l_pick_false ?_
  refine l_move ?_
  refine l_off ?_
  refine l_off ?_
  refine l_off ?_
  refine l_off ?_
  refine l_off ?_
  refine l_pick_false ?_
  refine l_move ?_
  refine l_off ?_
  refine l_off ?_
  refine l_off ?_
  refine l_off ?_
  refine l_off ?_
  refine l_pick_false ?_
  refine l_move ?_
  refine l_off ?_
  refine l_off ?_
  refine l_off ?_
  refine l_off ?_
  refine l_off ?_
  refine l_pick_false ?_
  refine l_move ?_
  refine l_off ?_
  refine l_off ?_
  refine l_off ?_
  refine l_off ?_
  refine l_off ?_
  refine l_pick_false ?_
  refine l_assign ?_
  refine k_nil ?_
  refine f_t ?_
  refine k_retc ?_
  apply k_ret [] hB h
theorem apostillelaw17_CallTrims_ok {s : Str} {n : Int} {r : Bool} (h : apostillelaw17_CallTrims s n = some r) : XSpec Tryz.prog 9 [S s, I n] [] (B r) [] [] := by
  unfold apostillelaw17_CallTrims at h
  refine X_of_run Tryz.hU Tryz.func9 (fun _ _ _ hB => ?_)
  refine k_seq ?_
  refine k_reg ?_
  refine l_assign ?_
  refine k_nil ?_
  refine f_t ?_
  refine k_seq ?_
  refine k_seq ?_
  refine k_cut (fun q2 => (.normal, ⟨[(0, S s), (1, I n), (25, B q2)], [], []⟩)) h (fun t h => ?_) (fun q2 h => ?_)
  · refine k_reg ?_
    refine l_call h (fun _ => apostillelaw17_awake_ok) (fun v1 _ h => ?_)
    refine l_un ?_
    refine l_move ?_
    refine l_split h (fun _ h => ?_) (fun _ h => ?_)
    · refine l_off ?_
      refine l_off ?_
      refine l_off ?_
      refine l_pick_true ?_
      refine k_nil ?_
      exact k_out [] hB h
    refine l_on ?_
    refine l_move ?_
    refine l_on ?_
    refine l_lens ?_
    refine l_on ?_
    refine l_cmp ?_
    refine l_pick_false ?_
    refine k_nil ?_
    exact k_out [] hB h
  refine f_t ?_
  refine k_if h (fun _ h => ?_) (fun _ h => ?_)
  · refine k_seq ?_
    refine k_reg ?_
    refine l_call h (fun _ => apostillelaw17_awake_ok) (fun v3 _ h => ?_)
    refine l_assign ?_
    refine k_nil ?_
    refine f_t ?_
    refine k_retc ?_
    refine f_tr ?_
    apply k_ret [] hB h
  refine k_skip ?_
  refine f_t ?_
  refine k_seq ?_
  refine k_reg ?_
  refine l_move ?_
  refine l_build ?_
  refine l_callN h (fun _ => apostillelaw16_Raw_Made_ok) (fun v4 _ h => ?_)
  refine l_field ?_
  refine l_assign ?_
  refine k_nil ?_
  refine f_t ?_
  refine k_seq ?_
  refine k_reg ?_
  refine l_litb [60, 97, 47, 62] ?_
  refine l_frz 1032 ?_
  refine l_call h (fun _ => parse_Parse_ok) (fun v5 _ h => ?_)
  refine l_move ?_
  refine l_extract ?_
  refine l_extract ?_
  refine l_assign ?_
  refine l_assign ?_
  refine k_nil ?_
  refine f_t ?_
  refine k_seq ?_
  refine k_reg ?_
  refine l_move ?_
  refine l_call h (fun _ => ident_Of_ok) (fun v6 _ h => ?_)
  refine l_move ?_
  refine l_extract ?_
  refine l_extract ?_
  refine l_assign ?_
  refine l_assign ?_
  refine k_nil ?_
  refine f_t ?_
  refine k_seq ?_
  refine k_reg ?_
  refine l_call h (fun _ => value_OfNumber_ok) (fun v7 _ h => ?_)
  refine l_move ?_
  refine l_extract ?_
  refine l_extract ?_
  refine l_alloc ?_
  refine l_store_box ?_
  refine l_assign ?_
  refine k_nil ?_
  refine f_t ?_
  refine k_seq ?_
  refine k_reg ?_
  refine l_move ?_
  refine l_build ?_
  refine l_move ?_
  refine l_call h (fun _ => value_OfText_ok) (fun v8 _ h => ?_)
  refine l_call h (fun _ => value_OfText_ok) (fun v9 _ h => ?_)
  refine l_to [(1009, 1009)] ⟨[(0, S v4.Text), (1, I n), (7, oP c_TIndex v6.1), (9, .ptr 1009 0), (47, oP c_TIndex v6.1), (48, .agg [I 0, I 0, I 0, I 0, I 0]), (50, .agg (c_TValue v8)), (51, .agg (c_TValue v9))], [(1009, .box 40 [I v7.1.Kind, .vs v7.1.Set.length (F c_TPoint v7.1.Set), B v7.1.Bool_, I v7.1.N, B v7.1.NaN, S v7.1.Text])], []⟩ hB ?_
  refine l_call h (fun _ => value_OfText_ok) (fun v10 _ h => ?_)
  refine l_lit (e := c_TValue) [v8, v9, v10] ?_
  refine l_frz 1053 ?_
  refine l_call h (fun _ => call_Do_ok) (fun v11 _ h => ?_)
  refine l_to [(1009, 1009)] ⟨[(0, S v4.Text), (1, I n), (7, oP c_TIndex v6.1), (9, .ptr 1009 0), (54, .tup [.agg (c_TValue v11.1), I v11.2])], [(1009, .box 40 [I v7.1.Kind, .vs v7.1.Set.length (F c_TPoint v7.1.Set), B v7.1.Bool_, I v7.1.N, B v7.1.NaN, S v7.1.Text])], []⟩ hB ?_
  refine l_move ?_
  refine l_extract ?_
  refine l_extract ?_
  refine l_alloc ?_
  refine l_store_box ?_
  refine l_assign ?_
  refine k_nil ?_
  refine f_t ?_
  refine k_seq ?_
  refine k_cut (fun q14 => (.normal, ⟨[(0, S v4.Text), (1, I n), (7, oP c_TIndex v6.1), (11, .ptr 1011 0), (12, I v11.2), (13, .ptr 1013 0), (14, I q14.1)], [(1011, .box 40 [I v11.1.Kind, .vs v11.1.Set.length (F c_TPoint v11.1.Set), B v11.1.Bool_, I v11.1.N, B v11.1.NaN, S v11.1.Text]), (1013, .box 40 [I q14.2.1, .vs q14.2.2.1.length (F c_TPoint q14.2.2.1), B q14.2.2.2.1, I q14.2.2.2.2.1, B q14.2.2.2.2.2.1, S q14.2.2.2.2.2.2])], []⟩)) h (fun t h => ?_) (fun q14 h => ?_)
  · refine k_mix [11] (.q 0 (.q 1 (.q 2 (.q 4 (.alt 3 (.alt 5 (.alt 6 (.q 7 (.q 8 (.alt 9 (.e 10 (.e 11 (.q 12 (.done)))) (.e 10 (.alt 9 (.e 11 (.q 12 (.done))) (.e 11 (.q 9 (.q 12 (.done))))))))) (.e 10 (.e 6 (.q 7 (.q 8 (.alt 9 (.e 11 (.q 12 (.done))) (.e 11 (.q 9 (.q 12 (.done)))))))))) (.e 10 (.e 5 (.e 6 (.q 7 (.q 8 (.alt 9 (.e 11 (.q 12 (.done))) (.e 11 (.q 9 (.q 12 (.done))))))))))) (.e 10 (.e 3 (.e 5 (.e 6 (.q 7 (.q 8 (.alt 9 (.e 11 (.q 12 (.done))) (.e 11 (.q 9 (.q 12 (.done)))))))))))))))) hm ?_
    refine gq ?_
    refine n_move ?_
    refine gq ?_
    refine n_build ?_
    refine gq ?_
    refine n_move ?_
    refine gq ?_
    refine n_load_agg ?_
    refine m_alt ?_ ?_
    · refine ge ?_
      refine n_call h (fun _ => value_OfText_ok) (fun v12 _ h => ?_)
      refine m_alt ?_ ?_
      · refine ge ?_
        refine n_lit (e := c_TValue) [v12, v7.1] ?_
        refine m_alt ?_ ?_
        · refine m_frz 1063 ?_
          refine ge ?_
          refine n_call h (fun _ => call_Do_ok) (fun v13 _ h => ?_)
          refine gq ?_
          refine n_move ?_
          refine gq ?_
          refine n_extract ?_
          refine m_alt ?_ ?_
          · refine geq ?_
            refine n_extract ?_
            refine ge ?_
            refine n_alloc ?_
            refine ge ?_
            refine n_store_box ?_
            refine gq ?_
            refine n_assign ?_
            refine m_nil ?_
            exact k_out [(1011, 1011), (1013, 1013)] hB h
          refine ge ?_
          refine n_alloc ?_
          refine m_alt ?_ ?_
          · refine geq ?_
            refine n_extract ?_
            refine ge ?_
            refine n_store_box ?_
            refine gq ?_
            refine n_assign ?_
            refine m_nil ?_
            exact k_out [(1011, 1011), (1013, 1013)] hB h
          refine ge ?_
          refine n_store_box ?_
          refine gq ?_
          refine n_extract ?_
          refine gq ?_
          refine n_assign ?_
          refine m_nil ?_
          exact k_out [(1011, 1011), (1013, 1013)] hB h
        refine ge ?_
        refine n_alloc ?_
        refine m_frz 1063 ?_
        refine ge ?_
        refine n_call h (fun _ => call_Do_ok) (fun v13 _ h => ?_)
        refine gq ?_
        refine n_move ?_
        refine gq ?_
        refine n_extract ?_
        refine m_alt ?_ ?_
        · refine geq ?_
          refine n_extract ?_
          refine ge ?_
          refine n_store_box ?_
          refine gq ?_
          refine n_assign ?_
          refine m_nil ?_
          exact k_out [(1011, 1011), (1013, 1013)] hB h
        refine ge ?_
        refine n_store_box ?_
        refine gq ?_
        refine n_extract ?_
        refine gq ?_
        refine n_assign ?_
        refine m_nil ?_
        exact k_out [(1011, 1011), (1013, 1013)] hB h
      refine ge ?_
      refine n_alloc ?_
      refine ge ?_
      refine n_lit (e := c_TValue) [v12, v7.1] ?_
      refine m_frz 1063 ?_
      refine ge ?_
      refine n_call h (fun _ => call_Do_ok) (fun v13 _ h => ?_)
      refine gq ?_
      refine n_move ?_
      refine gq ?_
      refine n_extract ?_
      refine m_alt ?_ ?_
      · refine geq ?_
        refine n_extract ?_
        refine ge ?_
        refine n_store_box ?_
        refine gq ?_
        refine n_assign ?_
        refine m_nil ?_
        exact k_out [(1011, 1011), (1013, 1013)] hB h
      refine ge ?_
      refine n_store_box ?_
      refine gq ?_
      refine n_extract ?_
      refine gq ?_
      refine n_assign ?_
      refine m_nil ?_
      exact k_out [(1011, 1011), (1013, 1013)] hB h
    refine ge ?_
    refine n_alloc ?_
    refine ge ?_
    refine n_call h (fun _ => value_OfText_ok) (fun v12 _ h => ?_)
    refine ge ?_
    refine n_lit (e := c_TValue) [v12, v7.1] ?_
    refine m_frz 1063 ?_
    refine ge ?_
    refine n_call h (fun _ => call_Do_ok) (fun v13 _ h => ?_)
    refine gq ?_
    refine n_move ?_
    refine gq ?_
    refine n_extract ?_
    refine m_alt ?_ ?_
    · refine geq ?_
      refine n_extract ?_
      refine ge ?_
      refine n_store_box ?_
      refine gq ?_
      refine n_assign ?_
      refine m_nil ?_
      exact k_out [(1011, 1011), (1013, 1013)] hB h
    refine ge ?_
    refine n_store_box ?_
    refine gq ?_
    refine n_extract ?_
    refine gq ?_
    refine n_assign ?_
    refine m_nil ?_
    exact k_out [(1011, 1011), (1013, 1013)] hB h
  refine f_t ?_
  refine k_seq ?_
  refine k_reg ?_
  refine l_move ?_
  refine l_call h (fun _ => value_OfNumber_ok) (fun v15 _ h => ?_)
  refine l_move ?_
  refine l_extract ?_
  refine l_extract ?_
  refine l_alloc ?_
  refine l_store_box ?_
  refine l_assign ?_
  refine k_nil ?_
  refine f_t ?_
  refine k_seq ?_
  refine k_seq ?_
  refine k_reg ?_
  refine l_move ?_
  refine l_cmp ?_
  refine k_nil ?_
  refine f_t ?_
  refine k_if h (fun _ h => ?_) (fun _ h => ?_)
  · refine k_seq ?_
    refine k_cut (fun q16 => (.normal, ⟨[(4, B q16)], [], []⟩)) h (fun t h => ?_) (fun q16 h => ?_)
    · refine k_reg ?_
      refine l_move ?_
      refine l_cmp ?_
      refine l_move ?_
      refine l_split h (fun _ h => ?_) (fun _ h => ?_)
      · refine l_on ?_
        refine l_move ?_
        refine l_on ?_
        refine l_cmp ?_
        refine l_pick_true ?_
        refine l_move ?_
        refine l_split h (fun _ h => ?_) (fun _ h => ?_)
        · refine l_on ?_
          refine l_fieldAddr ?_
          refine l_on ?_
          refine l_load ?_
          refine l_on ?_
          refine l_move ?_
          refine l_on ?_
          refine l_seq ?_
          refine l_pick_true ?_
          refine l_move ?_
          refine l_split h (fun _ h => ?_) (fun _ h => ?_)
          · refine l_on ?_
            refine l_fieldAddr ?_
            refine l_on ?_
            refine l_load ?_
            refine l_on ?_
            refine l_move ?_
            refine l_on ?_
            refine l_seq ?_
            refine l_pick_true ?_
            refine l_assign ?_
            refine k_nil ?_
            exact k_out [] hB h
          refine l_off ?_
          refine l_off ?_
          refine l_off ?_
          refine l_off ?_
          refine l_pick_false ?_
          refine l_assign ?_
          refine k_nil ?_
          exact k_out [] hB h
        refine l_off ?_
        refine l_off ?_
        refine l_off ?_
        refine l_off ?_
        refine l_pick_false ?_
        refine l_move ?_
        refine l_off ?_
        refine l_off ?_
        refine l_off ?_
        refine l_off ?_
        refine l_pick_false ?_
        refine l_assign ?_
        refine k_nil ?_
        exact k_out [] hB h
      refine l_off ?_
      refine l_off ?_
      refine l_pick_false ?_
      refine l_move ?_
      refine l_off ?_
      refine l_off ?_
      refine l_off ?_
      refine l_off ?_
      refine l_pick_false ?_
      refine l_move ?_
      refine l_off ?_
      refine l_off ?_
      refine l_off ?_
      refine l_off ?_
      refine l_pick_false ?_
      refine l_assign ?_
      refine k_nil ?_
      exact k_out [] hB h
    refine f_t ?_
    refine k_retc ?_
    refine f_tr ?_
    apply k_ret [] hB h
  refine k_skip ?_
  refine f_t ?_
  refine k_seq ?_
  refine k_reg ?_
  refine l_move ?_
  refine l_build ?_
  refine l_load_agg ?_
  refine l_lit (e := c_TValue) [v15.1] ?_
  refine l_frz 1096 ?_
  refine l_call h (fun _ => call_Do_ok) (fun v17 _ h => ?_)
  refine l_move ?_
  refine l_extract ?_
  refine l_extract ?_
  refine l_alloc ?_
  refine l_store_box ?_
  refine l_assign ?_
  refine k_nil ?_
  refine f_t ?_
  refine k_seq ?_
  refine k_reg ?_
  refine l_move ?_
  refine l_cmp ?_
  refine l_move ?_
  refine l_split h (fun _ h => ?_) (fun _ h => ?_)
  · refine l_on ?_
    refine l_move ?_
    refine l_on ?_
    refine l_cmp ?_
    refine l_pick_true ?_
    refine l_move ?_
    refine l_split h (fun _ h => ?_) (fun _ h => ?_)
    · refine l_on ?_
      refine l_move ?_
      refine l_on ?_
      refine l_cmp ?_
      refine l_pick_true ?_
      refine l_move ?_
      refine l_split h (fun _ h => ?_) (fun _ h => ?_)
      · refine l_on ?_
        refine l_fieldAddr ?_
        refine l_on ?_
        refine l_load ?_
        refine l_on ?_
        refine l_move ?_
        refine l_on ?_
        refine l_seq ?_
        refine l_pick_true ?_
        refine l_move ?_
        refine l_split h (fun _ h => ?_) (fun _ h => ?_)
        · refine l_on ?_
          refine l_fieldAddr ?_
          refine l_on ?_
          refine l_load ?_
          refine l_on ?_
          refine l_move ?_
          refine l_on ?_
          refine l_seq ?_
          refine l_pick_true ?_
          refine l_move ?_
          refine l_split h (fun _ h => ?_) (fun _ h => ?_)
          · refine l_on ?_
            refine l_load_agg ?_
            refine l_on ?_
            refine l_load_agg ?_
            refine l_on ?_
            refine l_call h (fun _ => value_Same_ok) (fun v18 _ h => ?_)
            refine l_pick_true ?_
            refine l_assign ?_
            refine k_nil ?_
            refine f_t ?_
            refine k_retc ?_
            apply k_ret [] hB h
          refine l_off ?_
          refine l_off ?_
          refine l_off ?_
          refine l_pick_false ?_
          refine l_assign ?_
          refine k_nil ?_
          refine f_t ?_
          refine k_retc ?_
          apply k_ret [] hB h
        refine l_off ?_
        refine l_off ?_
        refine l_off ?_
        refine l_off ?_
        refine l_pick_false ?_
        refine l_move ?_
        refine l_off ?_
        refine l_off ?_
        refine l_off ?_
        refine l_pick_false ?_
        refine l_assign ?_
        refine k_nil ?_
        refine f_t ?_
        refine k_retc ?_
        apply k_ret [] hB h
      refine l_off ?_
      refine l_off ?_
      refine l_off ?_
      refine l_off ?_
      refine l_pick_false ?_
      refine l_move ?_
      refine l_off ?_
      refine l_off ?_
      refine l_off ?_
      refine l_off ?_
      refine l_pick_false ?_
      refine l_move ?_
      refine l_off ?_
      refine l_off ?_
      refine l_off ?_
      refine l_pick_false ?_
      refine l_assign ?_
      refine k_nil ?_
      refine f_t ?_
      refine k_retc ?_
      apply k_ret [] hB h
    refine l_off ?_
    refine l_off ?_
    refine l_pick_false ?_
    refine l_move ?_
    refine l_off ?_
    refine l_off ?_
    refine l_off ?_
    refine l_off ?_
    refine l_pick_false ?_
    refine l_move ?_
    refine l_off ?_
    refine l_off ?_
    refine l_off ?_
    refine l_off ?_
    refine l_pick_false ?_
    refine l_move ?_
    refine l_off ?_
    refine l_off ?_
    refine l_off ?_
    refine l_pick_false ?_
    refine l_assign ?_
    refine k_nil ?_
    refine f_t ?_
    refine k_retc ?_
    apply k_ret [] hB h
  refine l_off ?_
  refine l_off ?_
  refine l_pick_false ?_
  refine l_move ?_
  refine l_off ?_
  refine l_off ?_
  refine l_pick_false ?_
  refine l_move ?_
  refine l_off ?_
  refine l_off ?_
  refine l_off ?_
  refine l_off ?_
  refine l_pick_false ?_
  refine l_move ?_
  refine l_off ?_
  refine l_off ?_
  refine l_off ?_
  refine l_off ?_
  refine l_pick_false ?_
  refine l_move ?_
  refine l_off ?_
  refine l_off ?_
  refine l_off ?_
  refine l_pick_false ?_
  refine l_assign ?_
  refine k_nil ?_
  refine f_t ?_
  refine k_retc ?_
  apply k_ret [] hB h
end Go.Proofs.YtipbfnjpfmmkfaaGreatDoor
