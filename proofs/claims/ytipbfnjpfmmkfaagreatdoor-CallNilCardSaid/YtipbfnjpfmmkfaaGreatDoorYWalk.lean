/-
  WALKS, printed by aw.py: that the program's functions compute the plain ones. Conditions: none.
-/
import Derived.Test.YtipbfnjpfmmkfaaGreatDoorYWalk3
set_option linter.unusedVariables false
set_option linter.unusedSimpArgs false
set_option maxRecDepth 20000
set_option maxHeartbeats 4000000
namespace Go.Proofs.YtipbfnjpfmmkfaaGreatDoor
open Go Go.Abs W G
theorem value_Read_ok {s : Str} {r : TValue × Int} (h : value_Read s = some r) : XSpec Tryz.prog 142 [S s] [] (.tup [.agg (c_TValue r.1), I r.2]) [] [] := by
  unfold value_Read at h
  refine X_of_run Tryz.hU Tryz.func142 (fun _ _ _ hB => ?_)
  refine k_seq ?_
  refine k_reg ?_
  refine l_alloc ?_
  refine l_assign ?_
  refine k_nil ?_
  refine f_t ?_
  refine k_seq ?_
  refine k_reg ?_
  refine l_move ?_
  refine l_call h (fun _ => name_Trim_ok) (fun v1 _ h => ?_)
  refine l_assign ?_
  refine k_nil ?_
  refine f_t ?_
  refine k_seq ?_
  refine k_reg ?_
  refine l_move ?_
  refine l_call h (fun _ => strings_CutPrefix_ok) (fun v2 _ h => ?_)
  refine l_move ?_
  refine l_extract ?_
  refine l_extract ?_
  refine l_assign ?_
  refine l_assign ?_
  refine k_nil ?_
  refine f_t ?_
  refine k_seq ?_
  refine k_reg ?_
  refine l_move ?_
  refine l_call h (fun _ => strings_Cut_ok) (fun v3 _ h => ?_)
  refine l_move ?_
  refine l_extract ?_
  refine l_extract ?_
  refine l_extract ?_
  refine l_assign ?_
  refine l_assign ?_
  refine l_assign ?_
  refine k_nil ?_
  refine f_t ?_
  refine k_seq ?_
  refine k_seq ?_
  refine k_cut (fun q6 => (.normal, ⟨[(2, .ptr 1002 0), (5, B v2.2), (6, S v3.1), (7, S v3.2.1), (40, B q6)], [(1002, .box 40 [I 0, .pl (.slice none 0 0), B false, I 0, B false, S []])], []⟩)) h (fun t h => ?_) (fun q6 h => ?_)
  · refine k_reg ?_
    refine l_move ?_
    refine l_call h (fun _ => value_digits_ok) (fun v4 _ h => ?_)
    refine l_un ?_
    refine l_move ?_
    refine l_split h (fun _ h => ?_) (fun _ h => ?_)
    · refine l_off ?_
      refine l_off ?_
      refine l_off ?_
      refine l_pick_true ?_
      refine l_move ?_
      refine l_off ?_
      refine l_off ?_
      refine l_off ?_
      refine l_off ?_
      refine l_off ?_
      refine l_off ?_
      refine l_pick_true ?_
      refine k_nil ?_
      exact k_out [(1002, 1002)] hB h
    refine l_on ?_
    refine l_move ?_
    refine l_on ?_
    refine l_call h (fun _ => value_digits_ok) (fun v5 _ h => ?_)
    refine l_to [(1002, 1002)] ⟨[(2, .ptr 1002 0), (5, B v2.2), (6, S v3.1), (7, S v3.2.1), (28, B false), (30, B v5)], [(1002, .box 40 [I 0, .pl (.slice none 0 0), B false, I 0, B false, S []])], []⟩ hB ?_
    refine l_on ?_
    refine l_un ?_
    refine l_pick_false ?_
    refine l_move ?_
    refine l_split h (fun _ h => ?_) (fun _ h => ?_)
    · refine l_off ?_
      refine l_off ?_
      refine l_off ?_
      refine l_off ?_
      refine l_off ?_
      refine l_off ?_
      refine l_pick_true ?_
      refine k_nil ?_
      exact k_out [(1002, 1002)] hB h
    refine l_on ?_
    refine l_move ?_
    refine l_on ?_
    refine l_seq ?_
    refine l_on ?_
    refine l_move ?_
    refine l_split h (fun _ h => ?_) (fun _ h => ?_)
    · refine l_on ?_
      refine l_move ?_
      refine l_on ?_
      refine l_seq ?_
      refine l_on ?_
      refine l_pick_true ?_
      refine l_pick_false ?_
      refine k_nil ?_
      exact k_out [(1002, 1002)] hB h
    refine l_off ?_
    refine l_off ?_
    refine l_on ?_
    refine l_pick_false ?_
    refine l_pick_false ?_
    refine k_nil ?_
    exact k_out [(1002, 1002)] hB h
  refine f_t ?_
  refine k_if h (fun _ h => ?_) (fun _ h => ?_)
  · refine k_seq ?_
    refine k_reg ?_
    refine l_call h (fun _ => value_None_ok) (fun v7 _ h => ?_)
    refine l_store_box ?_
    refine l_assign ?_
    refine k_nil ?_
    refine f_t ?_
    refine k_retc ?_
    refine f_tr ?_
    apply k_ret [] hB h
  refine k_skip ?_
  refine f_t ?_
  refine k_seq ?_
  refine k_seq ?_
  refine k_reg ?_
  refine l_move ?_
  refine l_call h (fun _ => strings_Trim_ok) (fun v8 _ h => ?_)
  refine l_sne ?_
  refine k_nil ?_
  refine f_t ?_
  refine k_if h (fun _ h => ?_) (fun _ h => ?_)
  · refine k_seq ?_
    refine k_reg ?_
    refine l_build ?_
    refine l_store_box ?_
    refine l_assign ?_
    refine k_nil ?_
    refine f_t ?_
    refine k_retc ?_
    refine f_tr ?_
    apply k_retN [] hB h
  refine k_skip ?_
  refine f_t ?_
  refine k_seq ?_
  refine k_reg ?_
  refine l_assign ?_
  refine k_nil ?_
  refine f_t ?_
  refine k_seq ?_
  refine k_seq ?_
  refine k_reg ?_
  refine l_move ?_
  refine l_strb ?_
  refine l_len ?_
  refine l_move ?_
  refine k_nil ?_
  refine f_t ?_
  refine k_block ?_
  refine k_loop (fun y9 => ⟨[(2, .ptr 1002 0), (5, B v2.2), (9, I y9.1), (47, .sl 1047 0 v3.1.length), (48, I (v3.1.length : Int)), (49, I y9.2)], [(1002, .box 40 [I 0, .pl (.slice none 0 0), B false, I 0, B false, S []]), (1047, .row 5 1 0 (F cU v3.1))], []⟩) (fun q11 => (.exit 0, ⟨[(2, .ptr 1002 0), (5, B v2.2), (9, I q11)], [(1002, .box 40 [I 0, .pl (.slice none 0 0), B false, I 0, B false, S []])], []⟩)) [(1002, 1002), (1047, 1047)] hB h (fun y9 t h => ?_) (fun q11 h => ?_)
  · unfold value_Read_b1 at h
    refine k_seq ?_
    refine k_reg ?_
    refine l_cmp ?_
    refine k_nil ?_
    refine f_t ?_
    refine k_seq ?_
    refine k_if h (fun _ h => ?_) (fun _ h => ?_)
    · refine k_skip ?_
      refine f_t ?_
      refine k_seq ?_
      refine k_block ?_
      refine k_seq ?_
      refine k_reg ?_
      refine l_ato h (fun v10 ev10 h => ?_)
      refine l_ldr0 ev10 ?_
      refine l_assign ?_
      refine k_nil ?_
      refine f_t ?_
      refine k_reg ?_
      refine l_move ?_
      refine l_mulw ?_
      refine l_move ?_
      refine l_subU v10 48 ?_
      refine l_conv_int ?_
      refine l_addw ?_
      refine l_min2 ?_
      refine l_assign ?_
      refine k_nil ?_
      refine f_b ?_
      refine f_t ?_
      refine k_reg ?_
      refine l_addw ?_
      refine l_move ?_
      refine k_nil ?_
      exact k_next [(1002, 1002), (1047, 1047)] hB h
    refine k_exit ?_
    refine f_te ?_
    exact k_brk [(1002, 1002)] hB h
  refine f_be ?_
  refine f_t ?_
  refine k_seq ?_
  refine k_seq ?_
  refine k_reg ?_
  refine l_move ?_
  refine k_nil ?_
  refine f_t ?_
  refine k_if h (fun _ h => ?_) (fun _ h => ?_)
  · refine k_reg ?_
    refine l_move ?_
    refine l_un ?_
    refine l_assign ?_
    refine k_nil ?_
    refine f_t ?_
    refine k_seq ?_
    refine k_reg ?_
    refine l_move ?_
    refine l_call h (fun _ => value_OfNumber_ok) (fun v12 _ h => ?_)
    refine l_extract ?_
    refine l_extract ?_
    refine l_store_box ?_
    refine l_assign ?_
    refine k_nil ?_
    refine f_t ?_
    refine k_retc ?_
    apply k_ret [] hB h
  refine k_skip ?_
  refine f_t ?_
  refine k_seq ?_
  refine k_reg ?_
  refine l_move ?_
  refine l_call h (fun _ => value_OfNumber_ok) (fun v13 _ h => ?_)
  refine l_extract ?_
  refine l_extract ?_
  refine l_store_box ?_
  refine l_assign ?_
  refine k_nil ?_
  refine f_t ?_
  refine k_retc ?_
  apply k_ret [] hB h
theorem value_AsNumber_ok {d : (Option TDoc)} {v_ : TValue} {r : TValue × Int} (h : value_AsNumber d v_ = some r) : XSpec Tryz.prog 144 [oP c_TDoc d, .agg (c_TValue v_)] [] (.tup [.agg (c_TValue r.1), I r.2]) [] [] := by
  unfold value_AsNumber at h
  refine X_of_run Tryz.hU Tryz.func144 (fun _ _ _ hB => ?_)
  refine k_seq ?_
  refine k_reg ?_
  refine l_box ?_
  refine l_alloc ?_
  refine l_assign ?_
  refine k_nil ?_
  refine f_t ?_
  refine k_seq ?_
  refine k_block ?_
  refine k_seq ?_
  refine k_reg ?_
  refine l_fieldAddr ?_
  refine l_load ?_
  refine l_cmp ?_
  refine l_assign ?_
  refine k_nil ?_
  refine f_t ?_
  refine k_if h (fun _ h => ?_) (fun _ h => ?_)
  · refine k_seq ?_
    refine k_reg ?_
    refine l_load_agg ?_
    refine l_store_box ?_
    refine l_assign ?_
    refine k_nil ?_
    refine f_t ?_
    refine k_retc ?_
    refine f_br ?_
    refine f_tr ?_
    apply k_ret [] hB h
  refine k_seq ?_
  refine k_cut (fun q1 => (.normal, ⟨[(0, oP c_TDoc d), (3, .ptr 1003 0), (4, .ptr 1004 0), (11, B q1)], [(1003, .box 40 [I v_.Kind, .vs v_.Set.length (F c_TPoint v_.Set), B v_.Bool_, I v_.N, B v_.NaN, S v_.Text]), (1004, .box 40 [I 0, .pl (.slice none 0 0), B false, I 0, B false, S []])], []⟩)) h (fun t h => ?_) (fun q1 h => ?_)
  · refine k_reg ?_
    refine l_fieldAddr ?_
    refine l_load ?_
    refine l_cmp ?_
    refine l_move ?_
    refine l_split h (fun _ h => ?_) (fun _ h => ?_)
    · refine l_on ?_
      refine l_fieldAddr ?_
      refine l_on ?_
      refine l_load ?_
      refine l_pick_true ?_
      refine l_assign ?_
      refine k_nil ?_
      exact k_out [(1003, 1003), (1004, 1004)] hB h
    refine l_off ?_
    refine l_off ?_
    refine l_pick_false ?_
    refine l_assign ?_
    refine k_nil ?_
    exact k_out [(1003, 1003), (1004, 1004)] hB h
  refine f_t ?_
  refine k_if h (fun _ h => ?_) (fun _ h => ?_)
  · refine k_seq ?_
    refine k_reg ?_
    refine l_call h (fun _ => value_OfNumber_ok) (fun v2 _ h => ?_)
    refine l_extract ?_
    refine l_extract ?_
    refine l_store_box ?_
    refine l_assign ?_
    refine k_nil ?_
    refine f_t ?_
    refine k_retc ?_
    refine f_br ?_
    refine f_tr ?_
    apply k_ret [] hB h
  refine k_seq ?_
  refine k_reg ?_
  refine l_fieldAddr ?_
  refine l_load ?_
  refine l_cmp ?_
  refine l_assign ?_
  refine k_nil ?_
  refine f_t ?_
  refine k_if h (fun _ h => ?_) (fun _ h => ?_)
  · refine k_seq ?_
    refine k_reg ?_
    refine l_call h (fun _ => value_OfNumber_ok) (fun v3 _ h => ?_)
    refine l_extract ?_
    refine l_extract ?_
    refine l_store_box ?_
    refine l_assign ?_
    refine k_nil ?_
    refine f_t ?_
    refine k_retc ?_
    refine f_br ?_
    refine f_tr ?_
    apply k_ret [] hB h
  refine k_seq ?_
  refine k_reg ?_
  refine l_fieldAddr ?_
  refine l_load ?_
  refine l_cmp ?_
  refine l_move ?_
  refine l_split h (fun _ h => ?_) (fun _ h => ?_)
  · refine l_off ?_
    refine l_off ?_
    refine l_off ?_
    refine l_pick_true ?_
    refine l_assign ?_
    refine k_nil ?_
    refine f_t ?_
    refine k_t ?_
    refine k_seq ?_
    refine k_reg ?_
    refine l_move ?_
    refine l_load_agg ?_
    refine l_call h (fun _ => value_AsText_ok) (fun v4 _ h => ?_)
    refine l_call h (fun _ => value_Read_ok) (fun v5 _ h => ?_)
    refine l_extract ?_
    refine l_extract ?_
    refine l_store_box ?_
    refine l_assign ?_
    refine k_nil ?_
    refine f_t ?_
    refine k_retc ?_
    refine f_br ?_
    refine f_tr ?_
    apply k_ret [] hB h
  refine l_on ?_
  refine l_fieldAddr ?_
  refine l_on ?_
  refine l_load ?_
  refine l_on ?_
  refine l_cmp ?_
  refine l_pick_false ?_
  refine l_assign ?_
  refine k_nil ?_
  refine f_t ?_
  refine k_if h (fun _ h => ?_) (fun _ h => ?_)
  · refine k_seq ?_
    refine k_reg ?_
    refine l_move ?_
    refine l_load_agg ?_
    refine l_call h (fun _ => value_AsText_ok) (fun v6 _ h => ?_)
    refine l_call h (fun _ => value_Read_ok) (fun v7 _ h => ?_)
    refine l_extract ?_
    refine l_extract ?_
    refine l_store_box ?_
    refine l_assign ?_
    refine k_nil ?_
    refine f_t ?_
    refine k_retc ?_
    refine f_br ?_
    refine f_tr ?_
    apply k_ret [] hB h
  refine k_skip ?_
  refine f_b ?_
  refine f_t ?_
  refine k_seq ?_
  refine k_reg ?_
  refine l_call h (fun _ => value_None_ok) (fun v8 _ h => ?_)
  refine l_store_box ?_
  refine l_assign ?_
  refine k_nil ?_
  refine f_t ?_
  refine k_retc ?_
  apply k_ret [] hB h
theorem call_caller_number_ok {c : TCaller} {n : Int} {r : TValue × Int} (h : call_caller_number c n = some r) : XSpec Tryz.prog 101 [.agg (c_TCaller c), I n] [] (.tup [.agg (c_TValue r.1), I r.2]) [] [] := by
  unfold call_caller_number at h
  refine X_of_run Tryz.hU Tryz.func101 (fun _ _ _ hB => ?_)
  refine k_seq ?_
  refine k_reg ?_
  refine l_box ?_
  refine l_alloc ?_
  refine l_assign ?_
  refine k_nil ?_
  refine f_t ?_
  refine k_seq ?_
  refine k_seq ?_
  refine k_reg ?_
  refine l_move ?_
  refine l_fieldAddr ?_
  refine l_load ?_
  refine l_len ?_
  refine l_cmp ?_
  refine k_nil ?_
  refine f_t ?_
  refine k_if h (fun _ h => ?_) (fun _ h => ?_)
  · refine k_seq ?_
    refine k_reg ?_
    refine l_load_agg ?_
    refine l_move ?_
    refine l_call h (fun _ => call_caller_text_ok) (fun v1 _ h => ?_)
    refine l_call h (fun _ => value_Read_ok) (fun v2 _ h => ?_)
    refine l_extract ?_
    refine l_extract ?_
    refine l_store_box ?_
    refine l_assign ?_
    refine k_nil ?_
    refine f_t ?_
    refine k_retc ?_
    refine f_tr ?_
    apply k_ret [] hB h
  refine k_skip ?_
  refine f_t ?_
  refine k_seq ?_
  refine k_mix [13] (.q 0 (.q 1 (.q 2 (.q 3 (.q 4 (.q 5 (.q 6 (.q 7 (.q 8 (.q 9 (.e 10 (.q 11 (.q 12 (.e 13 (.q 14 (.done)))))))))))))))) hm ?_
  refine gq ?_
  refine n_fieldAddr ?_
  refine gq ?_
  refine n_load ?_
  refine gq ?_
  refine n_deref h (fun v3 _ h => ?_)
  refine gq ?_
  refine n_fieldAddr ?_
  refine gq ?_
  refine n_load ?_
  refine gq ?_
  refine n_fieldAddr ?_
  refine gq ?_
  refine n_load ?_
  refine gq ?_
  refine n_move ?_
  refine gq ?_
  refine n_at h (fun v4 _ h => ?_)
  refine gq ?_
  refine n_load_agg ?_
  refine ge ?_
  refine n_call h (fun _ => value_AsNumber_ok) (fun v5 _ h => ?_)
  refine gq ?_
  refine n_extract ?_
  refine gq ?_
  refine n_extract ?_
  refine ge ?_
  refine n_store_box ?_
  refine gq ?_
  refine n_assign ?_
  refine m_nil ?_
  refine f_t ?_
  refine k_retc ?_
  apply k_ret [] hB h
theorem call_caller_substring_ok {c : TCaller} {r : TValue × Int} (h : call_caller_substring c = some r) : XSpec Tryz.prog 96 [.agg (c_TCaller c)] [] (.tup [.agg (c_TValue r.1), I r.2]) [] [] := by
  unfold call_caller_substring at h
  refine X_of_run Tryz.hU Tryz.func96 (fun _ _ _ hB => ?_)
  refine k_seq ?_
  refine k_reg ?_
  refine l_box ?_
  refine l_alloc ?_
  refine l_assign ?_
  refine k_nil ?_
  refine f_t ?_
  refine k_seq ?_
  refine k_reg ?_
  refine l_load_agg ?_
  refine l_call h (fun _ => call_caller_number_ok) (fun v1 _ h => ?_)
  refine l_move ?_
  refine l_extract ?_
  refine l_extract ?_
  refine l_alloc ?_
  refine l_store_box ?_
  refine l_assign ?_
  refine k_nil ?_
  refine f_t ?_
  refine k_seq ?_
  refine k_seq ?_
  refine k_reg ?_
  refine l_move ?_
  refine l_cmp ?_
  refine k_nil ?_
  refine f_t ?_
  refine k_if h (fun _ h => ?_) (fun _ h => ?_)
  · refine k_seq ?_
    refine k_reg ?_
    refine l_build ?_
    refine l_move ?_
    refine l_store_box ?_
    refine l_assign ?_
    refine k_nil ?_
    refine f_t ?_
    refine k_retc ?_
    refine f_tr ?_
    apply k_retN [] hB h
  refine k_skip ?_
  refine f_t ?_
  refine k_seq ?_
  refine k_reg ?_
  refine l_load_agg ?_
  refine l_call h (fun _ => call_caller_text_ok) (fun v2 _ h => ?_)
  refine l_runes h (fun v3 _ h => ?_)
  refine l_assign ?_
  refine k_nil ?_
  refine f_t ?_
  refine k_seq ?_
  refine k_reg ?_
  refine l_fieldAddr ?_
  refine l_load ?_
  refine l_move ?_
  refine l_len ?_
  refine l_addw ?_
  refine l_assign ?_
  refine l_assign ?_
  refine k_nil ?_
  refine f_t ?_
  refine k_seq ?_
  refine k_reg ?_
  refine l_fieldAddr ?_
  refine l_load ?_
  refine l_assign ?_
  refine k_nil ?_
  refine f_t ?_
  refine k_seq ?_
  refine k_seq ?_
  refine k_reg ?_
  refine l_fieldAddr ?_
  refine l_load ?_
  refine l_len ?_
  refine l_cmp ?_
  refine k_nil ?_
  refine f_t ?_
  refine k_if h (fun _ h => ?_) (fun _ h => ?_)
  · refine k_seq ?_
    refine k_reg ?_
    refine l_load_agg ?_
    refine l_call h (fun _ => call_caller_number_ok) (fun v4 _ h => ?_)
    refine l_move ?_
    refine l_extract ?_
    refine l_extract ?_
    refine l_alloc ?_
    refine l_store_box ?_
    refine l_assign ?_
    refine k_nil ?_
    refine f_t ?_
    refine k_seq ?_
    refine k_seq ?_
    refine k_reg ?_
    refine l_move ?_
    refine l_cmp ?_
    refine k_nil ?_
    refine f_t ?_
    refine k_if h (fun _ h => ?_) (fun _ h => ?_)
    · refine k_seq ?_
      refine k_reg ?_
      refine l_build ?_
      refine l_move ?_
      refine l_store_box ?_
      refine l_assign ?_
      refine k_nil ?_
      refine f_t ?_
      refine k_retc ?_
      refine f_tr ?_
      refine f_tr ?_
      apply k_retN [] hB h
    refine k_skip ?_
    refine f_t ?_
    refine k_seq ?_
    refine k_cut (fun q5 => (.normal, ⟨[(2, .ptr 1002 0), (6, .sl 1023 0 v3.length), (7, I v1.1.N), (8, I (w64 ((v3.length : Int) + 1))), (9, B q5), (10, .ptr 1010 0)], [(1002, .box 40 [I 0, .pl (.slice none 0 0), B false, I 0, B false, S []]), (1023, .row 21 1 0 (F cR v3)), (1010, .box 40 [I v4.1.Kind, .vs v4.1.Set.length (F c_TPoint v4.1.Set), B v4.1.Bool_, I v4.1.N, B v4.1.NaN, S v4.1.Text])], []⟩)) h (fun t h => ?_) (fun q5 h => ?_)
    · refine k_reg ?_
      refine l_move ?_
      refine l_move ?_
      refine l_split h (fun _ h => ?_) (fun _ h => ?_)
      · refine l_off ?_
        refine l_off ?_
        refine l_pick_true ?_
        refine l_assign ?_
        refine k_nil ?_
        exact k_out [(1002, 1002), (1023, 1023), (1010, 1010)] hB h
      refine l_on ?_
      refine l_fieldAddr ?_
      refine l_on ?_
      refine l_load ?_
      refine l_pick_false ?_
      refine l_assign ?_
      refine k_nil ?_
      exact k_out [(1002, 1002), (1023, 1023), (1010, 1010)] hB h
    refine f_t ?_
    refine k_reg ?_
    refine l_move ?_
    refine l_move ?_
    refine l_fieldAddr ?_
    refine l_load ?_
    refine l_addw ?_
    refine l_min2 ?_
    refine l_assign ?_
    refine k_nil ?_
    refine f_t ?_
    refine k_seq ?_
    refine k_reg ?_
    refine l_move ?_
    refine l_max2 ?_
    refine l_assign ?_
    refine k_nil ?_
    refine f_t ?_
    refine k_seq ?_
    refine k_seq ?_
    refine k_reg ?_
    refine l_move ?_
    refine l_move ?_
    refine l_split h (fun _ h => ?_) (fun _ h => ?_)
    · refine l_off ?_
      refine l_off ?_
      refine l_off ?_
      refine l_pick_true ?_
      refine k_nil ?_
      refine f_t ?_
      refine k_t ?_
      refine k_seq ?_
      refine k_reg ?_
      refine l_call h (fun _ => value_OfText_ok) (fun v6 _ h => ?_)
      refine l_store_box ?_
      refine l_assign ?_
      refine k_nil ?_
      refine f_t ?_
      refine k_retc ?_
      refine f_tr ?_
      apply k_ret [] hB h
    refine l_on ?_
    refine l_move ?_
    refine l_on ?_
    refine l_move ?_
    refine l_on ?_
    refine l_cmp ?_
    refine l_pick_false ?_
    refine k_nil ?_
    refine f_t ?_
    refine k_if h (fun _ h => ?_) (fun _ h => ?_)
    · refine k_seq ?_
      refine k_reg ?_
      refine l_call h (fun _ => value_OfText_ok) (fun v7 _ h => ?_)
      refine l_store_box ?_
      refine l_assign ?_
      refine k_nil ?_
      refine f_t ?_
      refine k_retc ?_
      refine f_tr ?_
      apply k_ret [] hB h
    refine k_skip ?_
    refine f_t ?_
    refine k_seq ?_
    refine k_reg ?_
    refine l_move ?_
    refine l_move ?_
    refine l_subw ?_
    refine l_move ?_
    refine l_subw ?_
    refine l_sub0 h (fun h => ?_)
    refine l_rstrp h (fun v8 _ h => ?_)
    refine l_call h (fun _ => value_OfText_ok) (fun v9 _ h => ?_)
    refine l_store_box ?_
    refine l_assign ?_
    refine k_nil ?_
    refine f_t ?_
    refine k_retc ?_
    apply k_ret [] hB h
  refine k_skip ?_
  refine f_t ?_
  refine k_seq ?_
  refine k_reg ?_
  refine l_move ?_
  refine l_max2 ?_
  refine l_assign ?_
  refine k_nil ?_
  refine f_t ?_
  refine k_seq ?_
  refine k_seq ?_
  refine k_reg ?_
  refine l_move ?_
  refine l_move ?_
  refine l_split h (fun _ h => ?_) (fun _ h => ?_)
  · refine l_off ?_
    refine l_off ?_
    refine l_off ?_
    refine l_pick_true ?_
    refine k_nil ?_
    refine f_t ?_
    refine k_t ?_
    refine k_seq ?_
    refine k_reg ?_
    refine l_call h (fun _ => value_OfText_ok) (fun v10 _ h => ?_)
    refine l_store_box ?_
    refine l_assign ?_
    refine k_nil ?_
    refine f_t ?_
    refine k_retc ?_
    refine f_tr ?_
    apply k_ret [] hB h
  refine l_on ?_
  refine l_move ?_
  refine l_on ?_
  refine l_move ?_
  refine l_on ?_
  refine l_cmp ?_
  refine l_pick_false ?_
  refine k_nil ?_
  refine f_t ?_
  refine k_if h (fun _ h => ?_) (fun _ h => ?_)
  · refine k_seq ?_
    refine k_reg ?_
    refine l_call h (fun _ => value_OfText_ok) (fun v11 _ h => ?_)
    refine l_store_box ?_
    refine l_assign ?_
    refine k_nil ?_
    refine f_t ?_
    refine k_retc ?_
    refine f_tr ?_
    apply k_ret [] hB h
  refine k_skip ?_
  refine f_t ?_
  refine k_seq ?_
  refine k_reg ?_
  refine l_move ?_
  refine l_move ?_
  refine l_subw ?_
  refine l_move ?_
  refine l_subw ?_
  refine l_sub0 h (fun h => ?_)
  refine l_rstrp h (fun v12 _ h => ?_)
  refine l_call h (fun _ => value_OfText_ok) (fun v13 _ h => ?_)
  refine l_store_box ?_
  refine l_assign ?_
  refine k_nil ?_
  refine f_t ?_
  refine k_retc ?_
  apply k_ret [] hB h
theorem value_OfTruth_ok {b : Bool} {r : TValue} (h : value_OfTruth b = some r) : XSpec Tryz.prog 97 [B b] [] (.agg (c_TValue r)) [] [] := by
  unfold value_OfTruth at h
  refine X_of_run Tryz.hU Tryz.func97 (fun _ _ _ hB => ?_)
  refine k_seq ?_
  refine k_reg ?_
  refine l_alloc ?_
  refine k_nil ?_
  refine f_t ?_
  refine k_seq ?_
  refine k_reg ?_
  refine l_move ?_
  refine l_build ?_
  refine l_store_box ?_
  refine k_nil ?_
  refine f_t ?_
  refine k_retc ?_
  apply k_retN [] hB h
theorem call_caller_do_ok {c : TCaller} {f : Str} {r : TValue × Int} (h : call_caller_do c f = some r) : XSpec Tryz.prog 58 [.agg (c_TCaller c), S f] [] (.tup [.agg (c_TValue r.1), I r.2]) [] [] := by
  unfold call_caller_do at h
  refine X_of_run Tryz.hU Tryz.func58 (fun _ _ _ hB => ?_)
  refine k_seq ?_
  refine k_reg ?_
  refine l_box ?_
  refine l_alloc ?_
  refine l_assign ?_
  refine k_nil ?_
  refine f_t ?_
  refine k_seq ?_
  refine k_seq ?_
  refine k_reg ?_
  refine l_move ?_
  refine k_nil ?_
  refine f_t ?_
  refine k_block ?_
  refine k_seq ?_
  refine k_reg ?_
  refine l_seq ?_
  refine l_assign ?_
  refine k_nil ?_
  refine f_t ?_
  refine k_if h (fun _ h => ?_) (fun _ h => ?_)
  · refine k_seq ?_
    refine k_reg ?_
    refine l_fieldAddr ?_
    refine l_fieldAddr ?_
    refine l_load ?_
    refine l_call h (fun _ => value_OfNumber_ok) (fun v1 _ h => ?_)
    refine l_extract ?_
    refine l_extract ?_
    refine l_store_box ?_
    refine l_assign ?_
    refine k_nil ?_
    refine f_t ?_
    refine k_retc ?_
    refine f_br ?_
    refine f_tr ?_
    apply k_ret [] hB h
  refine k_seq ?_
  refine k_reg ?_
  refine l_seq ?_
  refine l_assign ?_
  refine k_nil ?_
  refine f_t ?_
  refine k_if h (fun _ h => ?_) (fun _ h => ?_)
  · refine k_seq ?_
    refine k_reg ?_
    refine l_fieldAddr ?_
    refine l_fieldAddr ?_
    refine l_load ?_
    refine l_call h (fun _ => value_OfNumber_ok) (fun v2 _ h => ?_)
    refine l_extract ?_
    refine l_extract ?_
    refine l_store_box ?_
    refine l_assign ?_
    refine k_nil ?_
    refine f_t ?_
    refine k_retc ?_
    refine f_br ?_
    refine f_tr ?_
    apply k_ret [] hB h
  refine k_seq ?_
  refine k_reg ?_
  refine l_seq ?_
  refine l_assign ?_
  refine k_nil ?_
  refine f_t ?_
  refine k_if h (fun _ h => ?_) (fun _ h => ?_)
  · refine k_seq ?_
    refine k_reg ?_
    refine l_fieldAddr ?_
    refine l_load ?_
    refine l_at h (fun v3 _ h => ?_)
    refine l_fieldAddr ?_
    refine l_load ?_
    refine l_len ?_
    refine l_call h (fun _ => value_OfNumber_ok) (fun v4 _ h => ?_)
    refine l_extract ?_
    refine l_extract ?_
    refine l_store_box ?_
    refine l_assign ?_
    refine k_nil ?_
    refine f_t ?_
    refine k_retc ?_
    refine f_br ?_
    refine f_tr ?_
    apply k_ret [] hB h
  refine k_seq ?_
  refine k_reg ?_
  refine l_seq ?_
  refine l_assign ?_
  refine k_nil ?_
  refine f_t ?_
  refine k_if h (fun _ h => ?_) (fun _ h => ?_)
  · refine k_seq ?_
    refine k_reg ?_
    refine l_load_agg ?_
    refine l_call h (fun _ => call_caller_text_ok) (fun v5 _ h => ?_)
    refine l_runes h (fun v6 _ h => ?_)
    refine l_len ?_
    refine l_call h (fun _ => value_OfNumber_ok) (fun v7 _ h => ?_)
    refine l_to [(1004, 1004)] ⟨[(4, .ptr 1004 0), (40, .tup [.agg (c_TValue v7.1), I v7.2])], [(1004, .box 40 [I 0, .pl (.slice none 0 0), B false, I 0, B false, S []])], []⟩ hB ?_
    refine l_extract ?_
    refine l_extract ?_
    refine l_store_box ?_
    refine l_assign ?_
    refine k_nil ?_
    refine f_t ?_
    refine k_retc ?_
    refine f_br ?_
    refine f_tr ?_
    apply k_ret [] hB h
  refine k_seq ?_
  refine k_reg ?_
  refine l_seq ?_
  refine l_assign ?_
  refine k_nil ?_
  refine f_t ?_
  refine k_if h (fun _ h => ?_) (fun _ h => ?_)
  · refine k_seq ?_
    refine k_reg ?_
    refine l_load_agg ?_
    refine l_call h (fun _ => call_caller_substring_ok) (fun v8 _ h => ?_)
    refine l_extract ?_
    refine l_extract ?_
    refine l_store_box ?_
    refine l_assign ?_
    refine k_nil ?_
    refine f_t ?_
    refine k_retc ?_
    refine f_br ?_
    refine f_tr ?_
    apply k_ret [] hB h
  refine k_seq ?_
  refine k_reg ?_
  refine l_seq ?_
  refine l_assign ?_
  refine k_nil ?_
  refine f_t ?_
  refine k_if h (fun _ h => ?_) (fun _ h => ?_)
  · refine k_seq ?_
    refine k_reg ?_
    refine l_fieldAddr ?_
    refine l_load ?_
    cases h
  refine k_seq ?_
  refine k_reg ?_
  refine l_seq ?_
  refine l_assign ?_
  refine k_nil ?_
  refine f_t ?_
  refine k_if h (fun _ h => ?_) (fun _ h => ?_)
  · refine k_seq ?_
    refine k_reg ?_
    refine l_fieldAddr ?_
    refine l_load ?_
    cases h
  refine k_seq ?_
  refine k_seq ?_
  refine k_reg ?_
  refine l_seq ?_
  refine l_assign ?_
  refine k_nil ?_
  refine f_t ?_
  refine k_if h (fun _ h => ?_) (fun _ h => ?_)
  · refine k_skip ?_
    refine f_t ?_
    refine k_if h (fun _ h => ?_) (fun _ h => ?_)
    · refine k_seq ?_
      refine k_reg ?_
      refine l_move ?_
      refine l_seq ?_
      refine l_call h (fun _ => value_OfTruth_ok) (fun v11 _ h => ?_)
      refine l_store_box ?_
      refine l_assign ?_
      refine k_nil ?_
      refine f_t ?_
      refine k_retc ?_
      refine f_br ?_
      refine f_tr ?_
      apply k_ret [] hB h
    refine k_seq ?_
    refine k_reg ?_
    refine l_seq ?_
    refine l_assign ?_
    refine k_nil ?_
    refine f_t ?_
    refine k_if h (fun _ h => ?_) (fun _ h => ?_)
    · refine k_seq ?_
      refine k_reg ?_
      refine l_load_agg ?_
      cases h
    refine k_seq ?_
    refine k_reg ?_
    refine l_seq ?_
    refine l_assign ?_
    refine k_nil ?_
    refine f_t ?_
    refine k_if h (fun _ h => ?_) (fun _ h => ?_)
    · refine k_seq ?_
      refine k_reg ?_
      refine l_load_agg ?_
      cases h
    refine k_seq ?_
    refine k_seq ?_
    refine k_reg ?_
    refine l_seq ?_
    refine l_assign ?_
    refine k_nil ?_
    refine f_t ?_
    refine k_if h (fun _ h => ?_) (fun _ h => ?_)
    · refine k_skip ?_
      refine f_t ?_
      refine k_if h (fun _ h => ?_) (fun _ h => ?_)
      · refine k_seq ?_
        refine k_reg ?_
        refine l_load_agg ?_
        refine l_call h (fun _ => call_caller_number_ok) (fun v12 _ h => ?_)
        refine l_extract ?_
        refine l_extract ?_
        refine l_store_box ?_
        refine l_assign ?_
        refine k_nil ?_
        refine f_t ?_
        refine k_retc ?_
        refine f_br ?_
        refine f_tr ?_
        apply k_ret [] hB h
      refine k_skip ?_
      refine f_b ?_
      refine f_t ?_
      refine k_seq ?_
      refine k_reg ?_
      refine l_load_agg ?_
      refine l_move ?_
      cases h
    refine k_seq ?_
    refine k_reg ?_
    refine l_seq ?_
    refine l_assign ?_
    refine k_nil ?_
    refine f_t ?_
    refine k_if h (fun _ h => ?_) (fun _ h => ?_)
    · refine k_skip ?_
      refine f_t ?_
      refine k_if h (fun _ h => ?_) (fun _ h => ?_)
      · refine k_seq ?_
        refine k_reg ?_
        refine l_load_agg ?_
        refine l_call h (fun _ => call_caller_number_ok) (fun v13 _ h => ?_)
        refine l_extract ?_
        refine l_extract ?_
        refine l_store_box ?_
        refine l_assign ?_
        refine k_nil ?_
        refine f_t ?_
        refine k_retc ?_
        refine f_br ?_
        refine f_tr ?_
        apply k_ret [] hB h
      refine k_skip ?_
      refine f_b ?_
      refine f_t ?_
      refine k_seq ?_
      refine k_reg ?_
      refine l_load_agg ?_
      refine l_move ?_
      cases h
    refine k_seq ?_
    refine k_reg ?_
    refine l_seq ?_
    refine l_assign ?_
    refine k_nil ?_
    refine f_t ?_
    refine k_if h (fun _ h => ?_) (fun _ h => ?_)
    · refine k_skip ?_
      refine f_t ?_
      refine k_if h (fun _ h => ?_) (fun _ h => ?_)
      · refine k_seq ?_
        refine k_reg ?_
        refine l_load_agg ?_
        refine l_call h (fun _ => call_caller_number_ok) (fun v14 _ h => ?_)
        refine l_extract ?_
        refine l_extract ?_
        refine l_store_box ?_
        refine l_assign ?_
        refine k_nil ?_
        refine f_t ?_
        refine k_retc ?_
        refine f_br ?_
        refine f_tr ?_
        apply k_ret [] hB h
      refine k_skip ?_
      refine f_b ?_
      refine f_t ?_
      refine k_seq ?_
      refine k_reg ?_
      refine l_load_agg ?_
      refine l_move ?_
      cases h
    refine k_reg ?_
    refine l_seq ?_
    refine l_assign ?_
    refine k_nil ?_
    refine f_t ?_
    refine k_if h (fun _ h => ?_) (fun _ h => ?_)
    · refine k_seq ?_
      refine k_reg ?_
      refine l_load_agg ?_
      refine l_call h (fun _ => call_caller_number_ok) (fun v15 _ h => ?_)
      refine l_extract ?_
      refine l_extract ?_
      refine l_store_box ?_
      refine l_assign ?_
      refine k_nil ?_
      refine f_t ?_
      refine k_retc ?_
      refine f_br ?_
      refine f_tr ?_
      apply k_ret [] hB h
    refine k_skip ?_
    refine f_b ?_
    refine f_t ?_
    refine k_seq ?_
    refine k_reg ?_
    refine l_load_agg ?_
    refine l_move ?_
    cases h
  refine k_reg ?_
  refine l_seq ?_
  refine l_assign ?_
  refine k_nil ?_
  refine f_t ?_
  refine k_if h (fun _ h => ?_) (fun _ h => ?_)
  · refine k_seq ?_
    refine k_reg ?_
    refine l_move ?_
    refine l_seq ?_
    refine l_call h (fun _ => value_OfTruth_ok) (fun v16 _ h => ?_)
    refine l_store_box ?_
    refine l_assign ?_
    refine k_nil ?_
    refine f_t ?_
    refine k_retc ?_
    refine f_br ?_
    refine f_tr ?_
    apply k_ret [] hB h
  refine k_seq ?_
  refine k_reg ?_
  refine l_seq ?_
  refine l_assign ?_
  refine k_nil ?_
  refine f_t ?_
  refine k_if h (fun _ h => ?_) (fun _ h => ?_)
  · refine k_seq ?_
    refine k_reg ?_
    refine l_load_agg ?_
    cases h
  refine k_seq ?_
  refine k_reg ?_
  refine l_seq ?_
  refine l_assign ?_
  refine k_nil ?_
  refine f_t ?_
  refine k_if h (fun _ h => ?_) (fun _ h => ?_)
  · refine k_seq ?_
    refine k_reg ?_
    refine l_load_agg ?_
    cases h
  refine k_seq ?_
  refine k_seq ?_
  refine k_reg ?_
  refine l_seq ?_
  refine l_assign ?_
  refine k_nil ?_
  refine f_t ?_
  refine k_if h (fun _ h => ?_) (fun _ h => ?_)
  · refine k_skip ?_
    refine f_t ?_
    refine k_if h (fun _ h => ?_) (fun _ h => ?_)
    · refine k_seq ?_
      refine k_reg ?_
      refine l_load_agg ?_
      refine l_call h (fun _ => call_caller_number_ok) (fun v17 _ h => ?_)
      refine l_extract ?_
      refine l_extract ?_
      refine l_store_box ?_
      refine l_assign ?_
      refine k_nil ?_
      refine f_t ?_
      refine k_retc ?_
      refine f_br ?_
      refine f_tr ?_
      apply k_ret [] hB h
    refine k_skip ?_
    refine f_b ?_
    refine f_t ?_
    refine k_seq ?_
    refine k_reg ?_
    refine l_load_agg ?_
    refine l_move ?_
    cases h
  refine k_seq ?_
  refine k_reg ?_
  refine l_seq ?_
  refine l_assign ?_
  refine k_nil ?_
  refine f_t ?_
  refine k_if h (fun _ h => ?_) (fun _ h => ?_)
  · refine k_skip ?_
    refine f_t ?_
    refine k_if h (fun _ h => ?_) (fun _ h => ?_)
    · refine k_seq ?_
      refine k_reg ?_
      refine l_load_agg ?_
      refine l_call h (fun _ => call_caller_number_ok) (fun v18 _ h => ?_)
      refine l_extract ?_
      refine l_extract ?_
      refine l_store_box ?_
      refine l_assign ?_
      refine k_nil ?_
      refine f_t ?_
      refine k_retc ?_
      refine f_br ?_
      refine f_tr ?_
      apply k_ret [] hB h
    refine k_skip ?_
    refine f_b ?_
    refine f_t ?_
    refine k_seq ?_
    refine k_reg ?_
    refine l_load_agg ?_
    refine l_move ?_
    cases h
  refine k_seq ?_
  refine k_reg ?_
  refine l_seq ?_
  refine l_assign ?_
  refine k_nil ?_
  refine f_t ?_
  refine k_if h (fun _ h => ?_) (fun _ h => ?_)
  · refine k_skip ?_
    refine f_t ?_
    refine k_if h (fun _ h => ?_) (fun _ h => ?_)
    · refine k_seq ?_
      refine k_reg ?_
      refine l_load_agg ?_
      refine l_call h (fun _ => call_caller_number_ok) (fun v19 _ h => ?_)
      refine l_extract ?_
      refine l_extract ?_
      refine l_store_box ?_
      refine l_assign ?_
      refine k_nil ?_
      refine f_t ?_
      refine k_retc ?_
      refine f_br ?_
      refine f_tr ?_
      apply k_ret [] hB h
    refine k_skip ?_
    refine f_b ?_
    refine f_t ?_
    refine k_seq ?_
    refine k_reg ?_
    refine l_load_agg ?_
    refine l_move ?_
    cases h
  refine k_reg ?_
  refine l_seq ?_
  refine l_assign ?_
  refine k_nil ?_
  refine f_t ?_
  refine k_if h (fun _ h => ?_) (fun _ h => ?_)
  · refine k_seq ?_
    refine k_reg ?_
    refine l_load_agg ?_
    refine l_call h (fun _ => call_caller_number_ok) (fun v20 _ h => ?_)
    refine l_extract ?_
    refine l_extract ?_
    refine l_store_box ?_
    refine l_assign ?_
    refine k_nil ?_
    refine f_t ?_
    refine k_retc ?_
    refine f_br ?_
    refine f_tr ?_
    apply k_ret [] hB h
  refine k_skip ?_
  refine f_b ?_
  refine f_t ?_
  refine k_seq ?_
  refine k_reg ?_
  refine l_load_agg ?_
  refine l_move ?_
  cases h
theorem call_Do_ok {x : (Option TIndex)} {at_ : TPlace} {name : Str} {args : (List TValue)} {r : TValue × Int} (h : call_Do x at_ name args = some r) : XSpec Tryz.prog 27 [oP c_TIndex x, .agg (c_TPlace at_), S name, .vs args.length (F c_TValue args)] [] (.tup [.agg (c_TValue r.1), I r.2]) [] [] := by
  unfold call_Do at h
  refine X_of_run Tryz.hU Tryz.func27 (fun _ _ _ hB => ?_)
  refine k_seq ?_
  refine k_reg ?_
  refine l_box ?_
  refine l_alloc ?_
  refine l_assign ?_
  refine k_nil ?_
  refine f_t ?_
  refine k_seq ?_
  refine k_seq ?_
  refine k_reg ?_
  refine l_move ?_
  refine l_pnil ?_
  refine k_nil ?_
  refine f_t ?_
  refine k_if h (fun _ h => ?_) (fun _ h => ?_)
  · refine k_seq ?_
    refine k_reg ?_
    refine l_build ?_
    refine l_store_box ?_
    refine l_assign ?_
    refine k_nil ?_
    refine f_t ?_
    refine k_retc ?_
    refine f_tr ?_
    apply k_retN [] hB h
  refine k_skip ?_
  refine f_t ?_
  refine k_seq ?_
  refine k_reg ?_
  refine l_callX [(1, 101601)] [] h (fun _ => call_shapes_ok) (fun v1 _ h => ?_)
  refine l_move ?_
  refine l_mget keyS (ev := (fun v => .agg (c_TShape v))) (m := v1) (k := name) (TShape.mk 0 0 false) ?_
  refine l_move ?_
  refine l_extract ?_
  refine l_extract ?_
  refine l_alloc ?_
  refine l_store_box ?_
  refine l_assign ?_
  refine k_nil ?_
  refine f_t ?_
  refine k_seq ?_
  refine k_seq ?_
  refine k_reg ?_
  refine l_move ?_
  refine l_un ?_
  refine l_move ?_
  refine l_split h (fun _ h => ?_) (fun _ h => ?_)
  · refine l_off ?_
    refine l_off ?_
    refine l_off ?_
    refine l_off ?_
    refine l_off ?_
    refine l_pick_true ?_
    refine l_move ?_
    refine l_off ?_
    refine l_off ?_
    refine l_off ?_
    refine l_off ?_
    refine l_off ?_
    refine l_pick_true ?_
    refine l_move ?_
    refine l_off ?_
    refine l_off ?_
    refine l_off ?_
    refine l_off ?_
    refine l_off ?_
    refine l_off ?_
    refine l_off ?_
    refine l_off ?_
    refine l_off ?_
    refine l_off ?_
    refine l_off ?_
    refine l_off ?_
    refine l_off ?_
    refine l_off ?_
    refine l_pick_true ?_
    refine k_nil ?_
    refine f_t ?_
    refine k_t ?_
    refine k_seq ?_
    refine k_reg ?_
    refine l_build ?_
    refine l_store_box ?_
    refine l_assign ?_
    refine k_nil ?_
    refine f_t ?_
    refine k_retc ?_
    refine f_tr ?_
    apply k_retN [] hB h
  refine l_on ?_
  refine l_move ?_
  refine l_on ?_
  refine l_len ?_
  refine l_on ?_
  refine l_fieldAddr ?_
  refine l_on ?_
  refine l_load ?_
  refine l_on ?_
  refine l_cmp ?_
  refine l_pick_false ?_
  refine l_move ?_
  refine l_split h (fun _ h => ?_) (fun _ h => ?_)
  · refine l_off ?_
    refine l_off ?_
    refine l_off ?_
    refine l_off ?_
    refine l_off ?_
    refine l_pick_true ?_
    refine l_move ?_
    refine l_off ?_
    refine l_off ?_
    refine l_off ?_
    refine l_off ?_
    refine l_off ?_
    refine l_off ?_
    refine l_off ?_
    refine l_off ?_
    refine l_off ?_
    refine l_off ?_
    refine l_off ?_
    refine l_off ?_
    refine l_off ?_
    refine l_off ?_
    refine l_pick_true ?_
    refine k_nil ?_
    refine f_t ?_
    refine k_t ?_
    refine k_seq ?_
    refine k_reg ?_
    refine l_build ?_
    refine l_store_box ?_
    refine l_assign ?_
    refine k_nil ?_
    refine f_t ?_
    refine k_retc ?_
    refine f_tr ?_
    apply k_retN [] hB h
  refine l_on ?_
  refine l_move ?_
  refine l_on ?_
  refine l_len ?_
  refine l_on ?_
  refine l_fieldAddr ?_
  refine l_on ?_
  refine l_load ?_
  refine l_on ?_
  refine l_cmp ?_
  refine l_pick_false ?_
  refine l_move ?_
  refine l_split h (fun _ h => ?_) (fun _ h => ?_)
  · refine l_off ?_
    refine l_off ?_
    refine l_off ?_
    refine l_off ?_
    refine l_off ?_
    refine l_off ?_
    refine l_off ?_
    refine l_off ?_
    refine l_off ?_
    refine l_off ?_
    refine l_off ?_
    refine l_off ?_
    refine l_off ?_
    refine l_off ?_
    refine l_pick_true ?_
    refine k_nil ?_
    refine f_t ?_
    refine k_t ?_
    refine k_seq ?_
    refine k_reg ?_
    refine l_build ?_
    refine l_store_box ?_
    refine l_assign ?_
    refine k_nil ?_
    refine f_t ?_
    refine k_retc ?_
    refine f_tr ?_
    apply k_retN [] hB h
  refine l_on ?_
  refine l_fieldAddr ?_
  refine l_on ?_
  refine l_load ?_
  refine l_on ?_
  refine l_move ?_
  refine l_split h (fun _ h => ?_) (fun _ h => ?_)
  · refine l_on ?_
    refine l_move ?_
    refine l_on ?_
    refine l_len ?_
    refine l_on ?_
    refine l_cmp ?_
    refine l_on ?_
    refine l_pick_true ?_
    refine l_on ?_
    refine l_move ?_
    refine l_split h (fun _ h => ?_) (fun _ h => ?_)
    · refine l_on ?_
      refine l_move ?_
      refine l_on ?_
      refine l_at h (fun v2 _ h => ?_)
      refine l_on ?_
      refine l_fieldAddr ?_
      refine l_on ?_
      refine l_load ?_
      refine l_on ?_
      refine l_cmp ?_
      refine l_on ?_
      refine l_pick_true ?_
      refine l_pick_false ?_
      refine k_nil ?_
      refine f_t ?_
      refine k_if h (fun _ h => ?_) (fun _ h => ?_)
      · refine k_seq ?_
        refine k_reg ?_
        refine l_build ?_
        refine l_store_box ?_
        refine l_assign ?_
        refine k_nil ?_
        refine f_t ?_
        refine k_retc ?_
        refine f_tr ?_
        apply k_retN [] hB h
      refine k_skip ?_
      refine f_t ?_
      refine k_seq ?_
      refine k_reg ?_
      refine l_move ?_
      refine l_load_agg ?_
      refine l_move ?_
      refine l_build ?_
      refine l_move ?_
      refine l_call h (fun _ => call_caller_do_ok) (fun v3 _ h => ?_)
      refine l_extract ?_
      refine l_extract ?_
      refine l_store_box ?_
      refine l_assign ?_
      refine k_nil ?_
      refine f_t ?_
      refine k_retc ?_
      apply k_ret [] hB h
    refine l_off ?_
    refine l_off ?_
    refine l_off ?_
    refine l_off ?_
    refine l_off ?_
    refine l_on ?_
    refine l_pick_false ?_
    refine l_pick_false ?_
    refine k_nil ?_
    refine f_t ?_
    refine k_f ?_
    refine k_skip ?_
    refine f_t ?_
    refine k_seq ?_
    refine k_reg ?_
    refine l_move ?_
    refine l_load_agg ?_
    refine l_move ?_
    refine l_build ?_
    refine l_move ?_
    refine l_call h (fun _ => call_caller_do_ok) (fun v4 _ h => ?_)
    refine l_extract ?_
    refine l_extract ?_
    refine l_store_box ?_
    refine l_assign ?_
    refine k_nil ?_
    refine f_t ?_
    refine k_retc ?_
    apply k_ret [] hB h
  refine l_off ?_
  refine l_off ?_
  refine l_off ?_
  refine l_on ?_
  refine l_pick_false ?_
  refine l_on ?_
  refine l_move ?_
  refine l_off ?_
  refine l_off ?_
  refine l_off ?_
  refine l_off ?_
  refine l_off ?_
  refine l_on ?_
  refine l_pick_false ?_
  refine l_pick_false ?_
  refine k_nil ?_
  refine f_t ?_
  refine k_f ?_
  refine k_skip ?_
  refine f_t ?_
  refine k_seq ?_
  refine k_reg ?_
  refine l_move ?_
  refine l_load_agg ?_
  refine l_move ?_
  refine l_build ?_
  refine l_move ?_
  refine l_call h (fun _ => call_caller_do_ok) (fun v5 _ h => ?_)
  refine l_extract ?_
  refine l_extract ?_
  refine l_store_box ?_
  refine l_assign ?_
  refine k_nil ?_
  refine f_t ?_
  refine k_retc ?_
  apply k_ret [] hB h
theorem call_Is_ok {name : Str} {r : Bool} (h : call_Is name = some r) : XSpec Tryz.prog 46 [S name] [] (B r) [] [] := by
  unfold call_Is at h
  refine X_of_run Tryz.hU Tryz.func46 (fun _ _ _ hB => ?_)
  refine k_seq ?_
  refine k_reg ?_
  refine l_assign ?_
  refine k_nil ?_
  refine f_t ?_
  refine k_seq ?_
  refine k_reg ?_
  refine l_callX [(1, 100601)] [] h (fun _ => call_shapes_ok) (fun v1 _ h => ?_)
  refine l_move ?_
  refine l_mget keyS (ev := (fun v => .agg (c_TShape v))) (m := v1) (k := name) (TShape.mk 0 0 false) ?_
  refine l_move ?_
  refine l_extract ?_
  refine l_extract ?_
  refine l_alloc ?_
  refine l_store_box ?_
  refine l_assign ?_
  refine k_nil ?_
  refine f_t ?_
  refine k_seq ?_
  refine k_reg ?_
  refine l_move ?_
  refine l_assign ?_
  refine k_nil ?_
  refine f_t ?_
  refine k_retc ?_
  apply k_ret [] hB h
theorem apostillelaw17_awake_ok {r : Bool} (h : apostillelaw17_awake = some r) : XSpec Tryz.prog 23 [] [] (B r) [] [] := by
  unfold apostillelaw17_awake at h
  refine X_of_run Tryz.hU Tryz.func23 (fun _ _ _ hB => ?_)
  refine k_seq ?_
  refine k_reg ?_
  refine l_assign ?_
  refine k_nil ?_
  refine f_t ?_
  refine k_seq ?_
  refine k_reg ?_
  refine l_litb [60, 97, 47, 62] ?_
  refine l_frz 1010 ?_
  refine l_call h (fun _ => parse_Parse_ok) (fun v1 _ h => ?_)
  refine l_move ?_
  refine l_extract ?_
  refine l_extract ?_
  refine l_assign ?_
  refine l_assign ?_
  refine k_nil ?_
  refine f_t ?_
  refine k_seq ?_
  refine k_reg ?_
  refine l_move ?_
  refine l_call h (fun _ => ident_Of_ok) (fun v2 _ h => ?_)
  refine l_move ?_
  refine l_extract ?_
  refine l_extract ?_
  refine l_assign ?_
  refine l_assign ?_
  refine k_nil ?_
  refine f_t ?_
  refine k_seq ?_
  refine k_reg ?_
  refine l_call h (fun _ => value_OfNumber_ok) (fun v3 _ h => ?_)
  refine l_move ?_
  refine l_extract ?_
  refine l_extract ?_
  refine l_alloc ?_
  refine l_store_box ?_
  refine l_assign ?_
  refine k_nil ?_
  refine f_t ?_
  refine k_seq ?_
  refine k_cut (fun q6 => (.normal, ⟨[(2, I v1.2), (4, I v2.2), (7, .ptr 1007 0), (8, I q6.1)], [(1007, .box 40 [I q6.2.1, .vs q6.2.2.1.length (F c_TPoint q6.2.2.1), B q6.2.2.2.1, I q6.2.2.2.2.1, B q6.2.2.2.2.2.1, S q6.2.2.2.2.2.2])], []⟩)) h (fun t h => ?_) (fun q6 h => ?_)
  · refine k_mix [10] (.q 0 (.q 1 (.q 3 (.alt 2 (.alt 4 (.alt 5 (.q 6 (.q 7 (.alt 8 (.e 9 (.e 10 (.q 11 (.done)))) (.e 9 (.alt 8 (.e 10 (.q 11 (.done))) (.e 10 (.q 8 (.q 11 (.done))))))))) (.e 9 (.e 5 (.q 6 (.q 7 (.alt 8 (.e 10 (.q 11 (.done))) (.e 10 (.q 8 (.q 11 (.done)))))))))) (.e 9 (.e 4 (.e 5 (.q 6 (.q 7 (.alt 8 (.e 10 (.q 11 (.done))) (.e 10 (.q 8 (.q 11 (.done))))))))))) (.e 9 (.e 2 (.e 4 (.e 5 (.q 6 (.q 7 (.alt 8 (.e 10 (.q 11 (.done))) (.e 10 (.q 8 (.q 11 (.done))))))))))))))) hm ?_
    refine gq ?_
    refine n_move ?_
    refine gq ?_
    refine n_build ?_
    refine gq ?_
    refine n_load_agg ?_
    refine m_alt ?_ ?_
    · refine ge ?_
      refine n_call h (fun _ => value_OfText_ok) (fun v4 _ h => ?_)
      refine m_alt ?_ ?_
      · refine ge ?_
        refine n_lit (e := c_TValue) [v4, v3.1] ?_
        refine m_alt ?_ ?_
        · refine m_frz 1029 ?_
          refine ge ?_
          refine n_call h (fun _ => call_Do_ok) (fun v5 _ h => ?_)
          refine gq ?_
          refine n_move ?_
          refine gq ?_
          refine n_extract ?_
          refine m_alt ?_ ?_
          · refine geq ?_
            refine n_extract ?_
            refine ge ?_
            refine n_alloc ?_
            refine ge ?_
            refine n_store_box ?_
            refine gq ?_
            refine n_assign ?_
            refine m_nil ?_
            exact k_out [(1007, 1007)] hB h
          refine ge ?_
          refine n_alloc ?_
          refine m_alt ?_ ?_
          · refine geq ?_
            refine n_extract ?_
            refine ge ?_
            refine n_store_box ?_
            refine gq ?_
            refine n_assign ?_
            refine m_nil ?_
            exact k_out [(1007, 1007)] hB h
          refine ge ?_
          refine n_store_box ?_
          refine gq ?_
          refine n_extract ?_
          refine gq ?_
          refine n_assign ?_
          refine m_nil ?_
          exact k_out [(1007, 1007)] hB h
        refine ge ?_
        refine n_alloc ?_
        refine m_frz 1029 ?_
        refine ge ?_
        refine n_call h (fun _ => call_Do_ok) (fun v5 _ h => ?_)
        refine gq ?_
        refine n_move ?_
        refine gq ?_
        refine n_extract ?_
        refine m_alt ?_ ?_
        · refine geq ?_
          refine n_extract ?_
          refine ge ?_
          refine n_store_box ?_
          refine gq ?_
          refine n_assign ?_
          refine m_nil ?_
          exact k_out [(1007, 1007)] hB h
        refine ge ?_
        refine n_store_box ?_
        refine gq ?_
        refine n_extract ?_
        refine gq ?_
        refine n_assign ?_
        refine m_nil ?_
        exact k_out [(1007, 1007)] hB h
      refine ge ?_
      refine n_alloc ?_
      refine ge ?_
      refine n_lit (e := c_TValue) [v4, v3.1] ?_
      refine m_frz 1029 ?_
      refine ge ?_
      refine n_call h (fun _ => call_Do_ok) (fun v5 _ h => ?_)
      refine gq ?_
      refine n_move ?_
      refine gq ?_
      refine n_extract ?_
      refine m_alt ?_ ?_
      · refine geq ?_
        refine n_extract ?_
        refine ge ?_
        refine n_store_box ?_
        refine gq ?_
        refine n_assign ?_
        refine m_nil ?_
        exact k_out [(1007, 1007)] hB h
      refine ge ?_
      refine n_store_box ?_
      refine gq ?_
      refine n_extract ?_
      refine gq ?_
      refine n_assign ?_
      refine m_nil ?_
      exact k_out [(1007, 1007)] hB h
    refine ge ?_
    refine n_alloc ?_
    refine ge ?_
    refine n_call h (fun _ => value_OfText_ok) (fun v4 _ h => ?_)
    refine ge ?_
    refine n_lit (e := c_TValue) [v4, v3.1] ?_
    refine m_frz 1029 ?_
    refine ge ?_
    refine n_call h (fun _ => call_Do_ok) (fun v5 _ h => ?_)
    refine gq ?_
    refine n_move ?_
    refine gq ?_
    refine n_extract ?_
    refine m_alt ?_ ?_
    · refine geq ?_
      refine n_extract ?_
      refine ge ?_
      refine n_store_box ?_
      refine gq ?_
      refine n_assign ?_
      refine m_nil ?_
      exact k_out [(1007, 1007)] hB h
    refine ge ?_
    refine n_store_box ?_
    refine gq ?_
    refine n_extract ?_
    refine gq ?_
    refine n_assign ?_
    refine m_nil ?_
    exact k_out [(1007, 1007)] hB h
  refine f_t ?_
  refine k_seq ?_
  refine k_reg ?_
  refine l_move ?_
  refine l_cmp ?_
  refine l_move ?_
  refine l_split h (fun _ h => ?_) (fun _ h => ?_)
  · refine l_on ?_
    refine l_move ?_
    refine l_on ?_
    refine l_cmp ?_
    refine l_pick_true ?_
    refine l_move ?_
    refine l_split h (fun _ h => ?_) (fun _ h => ?_)
    · refine l_on ?_
      refine l_move ?_
      refine l_on ?_
      refine l_cmp ?_
      refine l_pick_true ?_
      refine l_move ?_
      refine l_split h (fun _ h => ?_) (fun _ h => ?_)
      · refine l_on ?_
        refine l_fieldAddr ?_
        refine l_on ?_
        refine l_load ?_
        refine l_on ?_
        refine l_seq ?_
        refine l_pick_true ?_
        refine l_move ?_
        refine l_split h (fun _ h => ?_) (fun _ h => ?_)
        · refine l_on ?_
          refine l_call h (fun _ => call_Is_ok) (fun v7 _ h => ?_)
          refine l_pick_true ?_
          refine l_assign ?_
          refine k_nil ?_
          refine f_t ?_
          refine k_retc ?_
          apply k_ret [] hB h
        refine l_off ?_
        refine l_pick_false ?_
        refine l_assign ?_
        refine k_nil ?_
        refine f_t ?_
        refine k_retc ?_
        apply k_ret [] hB h
      refine l_off ?_
      refine l_off ?_
      refine l_off ?_
      refine l_pick_false ?_
      refine l_move ?_
      refine l_off ?_
      refine l_pick_false ?_
      refine l_assign ?_
      refine k_nil ?_
      refine f_t ?_
      refine k_retc ?_
      apply k_ret [] hB h
    refine l_off ?_
    refine l_off ?_
    refine l_pick_false ?_
    refine l_move ?_
    refine l_off ?_
    refine l_off ?_
    refine l_off ?_
    refine l_pick_false ?_
    refine l_move ?_
    refine l_off ?_
    refine l_pick_false ?_
    refine l_assign ?_
    refine k_nil ?_
    refine f_t ?_
    refine k_retc ?_
    apply k_ret [] hB h
  refine l_off ?_
  refine l_off ?_
  refine l_pick_false ?_
  refine l_move ?_
  refine l_off ?_
  refine l_off ?_
  refine l_pick_false ?_
  refine l_move ?_
  refine l_off ?_
  refine l_off ?_
  refine l_off ?_
  refine l_pick_false ?_
  refine l_move ?_
  refine l_off ?_
  refine l_pick_false ?_
  refine l_assign ?_
  refine k_nil ?_
  refine f_t ?_
  refine k_retc ?_
  apply k_ret [] hB h
theorem apostilleref10_Same_ok {a : (List TPoint)} {b : (List TPoint)} {r : Bool} (h : apostilleref10_Same a b = some r) : XSpec Tryz.prog 59 [.vs a.length (F c_TPoint a), .vs b.length (F c_TPoint b)] [] (B r) [] [] := by
  unfold apostilleref10_Same at h
  refine X_of_run Tryz.hU Tryz.func59 (fun _ _ _ hB => ?_)
  refine k_seq ?_
  refine k_reg ?_
  refine l_assign ?_
  refine k_nil ?_
  refine f_t ?_
  refine k_seq ?_
  refine k_seq ?_
  refine k_reg ?_
  refine l_move ?_
  refine l_len ?_
  refine l_move ?_
  refine l_len ?_
  refine l_cmp ?_
  refine k_nil ?_
  refine f_t ?_
  refine k_if h (fun _ h => ?_) (fun _ h => ?_)
  · refine k_seq ?_
    refine k_reg ?_
    refine l_assign ?_
    refine k_nil ?_
    refine f_t ?_
    refine k_retc ?_
    refine f_tr ?_
    apply k_ret [] hB h
  refine k_skip ?_
  refine f_t ?_
  refine k_seq ?_
  refine k_seq ?_
  refine k_reg ?_
  refine l_move ?_
  refine l_len ?_
  refine l_move ?_
  refine k_nil ?_
  refine f_t ?_
  refine k_block ?_
  refine k_loop (fun y1 => ⟨[(0, .vs a.length (F c_TPoint a)), (1, .vs b.length (F c_TPoint b)), (12, I (a.length : Int)), (13, I y1)], [], []⟩) (Sum.elim (fun q4 => (.ret, ⟨[(4, B false)], [], []⟩)) (fun q5 => (.exit 0, ⟨[], [], []⟩))) [] hB h (fun y1 t h => ?_) (fun q h => ?_)
  · unfold apostilleref10_Same_b1 at h
    refine k_seq ?_
    refine k_reg ?_
    refine l_cmp ?_
    refine k_nil ?_
    refine f_t ?_
    refine k_seq ?_
    refine k_if h (fun _ h => ?_) (fun _ h => ?_)
    · refine k_skip ?_
      refine f_t ?_
      refine k_seq ?_
      refine k_block ?_
      refine k_seq ?_
      refine k_reg ?_
      refine l_move ?_
      refine l_assign ?_
      refine k_nil ?_
      refine f_t ?_
      refine k_seq ?_
      refine k_mix [] (.q 0 (.q 1 (.q 2 (.q 3 (.q 4 (.q 5 (.q 6 (.q 7 (.q 8 (.done)))))))))) hm ?_
      refine gq ?_
      refine n_move ?_
      refine gq ?_
      refine n_move ?_
      refine gq ?_
      refine n_at h (fun v2 _ h => ?_)
      refine gq ?_
      refine n_load_agg ?_
      refine gq ?_
      refine n_move ?_
      refine gq ?_
      refine n_move ?_
      refine gq ?_
      refine n_at h (fun v3 _ h => ?_)
      refine gq ?_
      refine n_load_agg ?_
      refine gq ?_
      refine n_eqs (k := .i64) (TPoint.ints v2) (TPoint.ints v3) hs29 he29 ?_
      refine m_nil ?_
      refine f_t ?_
      refine k_if h (fun _ h => ?_) (fun _ h => ?_)
      · refine k_seq ?_
        refine k_reg ?_
        refine l_assign ?_
        refine k_nil ?_
        refine f_t ?_
        refine k_retc ?_
        refine f_br ?_
        refine f_tr ?_
        exact k_brk [] hB h
      refine k_skip ?_
      refine f_b ?_
      refine f_t ?_
      refine k_reg ?_
      refine l_addw ?_
      refine l_move ?_
      refine k_nil ?_
      exact k_next [] hB h
    refine k_exit ?_
    refine f_te ?_
    exact k_brk [] hB h
  rcases q with q4 | q5
  · dsimp only [Sum.elim] at h ⊢
    refine f_br ?_
    refine f_tr ?_
    apply k_ret [] hB h
  dsimp only [Sum.elim] at h ⊢
  refine f_be ?_
  refine f_t ?_
  refine k_seq ?_
  refine k_reg ?_
  refine l_assign ?_
  refine k_nil ?_
  refine f_t ?_
  refine k_retc ?_
  apply k_ret [] hB h
theorem apostilleref16_Same_ok {a : TValue} {b : TValue} {r : Bool} (h : apostilleref16_Same a b = some r) : XSpec Tryz.prog 29 [.agg (c_TValue a), .agg (c_TValue b)] [] (B r) [] [] := by
  unfold apostilleref16_Same at h
  refine X_of_run Tryz.hU Tryz.func29 (fun _ _ _ hB => ?_)
  refine k_seq ?_
  refine k_reg ?_
  refine l_box ?_
  refine l_box ?_
  refine l_assign ?_
  refine k_nil ?_
  refine f_t ?_
  refine k_seq ?_
  refine k_reg ?_
  refine l_fieldAddr ?_
  refine l_load ?_
  refine l_fieldAddr ?_
  refine l_load ?_
  refine l_cmp ?_
  refine l_move ?_
  refine l_split h (fun _ h => ?_) (fun _ h => ?_)
  · refine l_on ?_
    refine l_fieldAddr ?_
    refine l_on ?_
    refine l_load ?_
    refine l_on ?_
    refine l_fieldAddr ?_
    refine l_on ?_
    refine l_load ?_
    refine l_on ?_
    refine l_call h (fun _ => apostilleref10_Same_ok) (fun v1 _ h => ?_)
    refine l_pick_true ?_
    refine l_move ?_
    refine l_split h (fun _ h => ?_) (fun _ h => ?_)
    · refine l_on ?_
      refine l_fieldAddr ?_
      refine l_on ?_
      refine l_load ?_
      refine l_on ?_
      refine l_fieldAddr ?_
      refine l_on ?_
      refine l_load ?_
      refine l_on ?_
      refine l_bool ?_
      refine l_pick_true ?_
      refine l_move ?_
      refine l_split h (fun _ h => ?_) (fun _ h => ?_)
      · refine l_on ?_
        refine l_fieldAddr ?_
        refine l_on ?_
        refine l_load ?_
        refine l_on ?_
        refine l_fieldAddr ?_
        refine l_on ?_
        refine l_load ?_
        refine l_on ?_
        refine l_cmp ?_
        refine l_pick_true ?_
        refine l_move ?_
        refine l_split h (fun _ h => ?_) (fun _ h => ?_)
        · refine l_on ?_
          refine l_fieldAddr ?_
          refine l_on ?_
          refine l_load ?_
          refine l_on ?_
          refine l_fieldAddr ?_
          refine l_on ?_
          refine l_load ?_
          refine l_on ?_
          refine l_bool ?_
          refine l_pick_true ?_
          refine l_move ?_
          refine l_split h (fun _ h => ?_) (fun _ h => ?_)
          · refine l_on ?_
            refine l_fieldAddr ?_
            refine l_on ?_
            refine l_load ?_
            refine l_on ?_
            refine l_fieldAddr ?_
            refine l_on ?_
            refine l_load ?_
            refine l_on ?_
            refine l_seq ?_
            refine l_pick_true ?_
            refine l_assign ?_
            refine k_nil ?_
            refine f_t ?_
            refine k_retc ?_
            apply k_ret [] hB h
          refine l_off ?_
          refine l_off ?_
          refine l_off ?_
          refine l_off ?_
          refine l_off ?_
          refine l_pick_false ?_
          refine l_assign ?_
          refine k_nil ?_
          refine f_t ?_
          refine k_retc ?_
          apply k_ret [] hB h
        refine l_off ?_
        refine l_off ?_
        refine l_off ?_
        refine l_off ?_
        refine l_off ?_
        refine l_pick_false ?_
        refine l_move ?_
        refine l_off ?_
        refine l_off ?_
        refine l_off ?_
        refine l_off ?_
        refine l_off ?_
        refine l_pick_false ?_
        refine l_assign ?_
        refine k_nil ?_
        refine f_t ?_
        refine k_retc ?_
        apply k_ret [] hB h
      refine l_off ?_
      refine l_off ?_
      refine l_off ?_
      refine l_off ?_
      refine l_off ?_
      refine l_pick_false ?_
      refine l_move ?_
      refine l_off ?_
      refine l_off ?_
      refine l_off ?_
      refine l_off ?_
      refine l_off ?_
      refine l_pick_false ?_
      refine l_move ?_
      refine l_off ?_
      refine l_off ?_
      refine l_off ?_
      refine l_off ?_
      refine l_off ?_
      refine l_pick_false ?_
      refine l_assign ?_
      refine k_nil ?_
      refine f_t ?_
      refine k_retc ?_
      apply k_ret [] hB h
    refine l_off ?_
    refine l_off ?_
    refine l_off ?_
    refine l_off ?_
    refine l_off ?_
    refine l_pick_false ?_
    refine l_move ?_
    refine l_off ?_
    refine l_off ?_
    refine l_off ?_
    refine l_off ?_
    refine l_off ?_
    refine l_pick_false ?_
    refine l_move ?_
    refine l_off ?_
    refine l_off ?_
    refine l_off ?_
    refine l_off ?_
    refine l_off ?_
    refine l_pick_false ?_
    refine l_move ?_
    refine l_off ?_
    refine l_off ?_
    refine l_off ?_
    refine l_off ?_
    refine l_off ?_
    refine l_pick_false ?_
    refine l_assign ?_
    refine k_nil ?_
    refine f_t ?_
    refine k_retc ?_
    apply k_ret [] hB h
  refine l_off ?_
  refine l_off ?_
  refine l_off ?_
  refine l_off ?_
  refine l_off ?_
  refine l_pick_false ?_
  refine l_move ?_
  refine l_off ?_
  refine l_off ?_
  refine l_off ?_
  refine l_off ?_
  refine l_off ?_
  refine l_pick_false ?_
  refine l_move ?_
  refine l_off ?_
  refine l_off ?_
  refine l_off ?_
  refine l_off ?_
  refine l_off ?_
  refine l_pick_false ?_
  refine l_move ?_
  refine l_off ?_
  refine l_off ?_
  refine l_off ?_
  refine l_off ?_
  refine l_off ?_
  refine l_pick_false ?_
  refine l_move ?_
  refine l_off ?_
  refine l_off ?_
  refine l_off ?_
  refine l_off ?_
  refine l_off ?_
  refine l_pick_false ?_
  refine l_assign ?_
  refine k_nil ?_
  refine f_t ?_
  refine k_retc ?_
  apply k_ret [] hB h
theorem apostillelaw17_CallNil_ok {name : Str} {r : Bool} (h : apostillelaw17_CallNil name = some r) : XSpec Tryz.prog 7 [S name] [] (B r) [] [] := by
  unfold apostillelaw17_CallNil at h
  refine X_of_run Tryz.hU Tryz.func7 (fun _ _ _ hB => ?_)
  refine k_seq ?_
  refine k_reg ?_
  refine l_assign ?_
  refine k_nil ?_
  refine f_t ?_
  refine k_seq ?_
  refine k_seq ?_
  refine k_cut (fun q2 => (.normal, ⟨[(0, S name), (11, B q2)], [], []⟩)) h (fun t h => ?_) (fun q2 h => ?_)
  · refine k_reg ?_
    refine l_call h (fun _ => apostillelaw17_awake_ok) (fun v1 _ h => ?_)
    refine l_un ?_
    refine l_move ?_
    refine l_split h (fun _ h => ?_) (fun _ h => ?_)
    · refine l_off ?_
      refine l_off ?_
      refine l_off ?_
      refine l_pick_true ?_
      refine k_nil ?_
      exact k_out [] hB h
    refine l_on ?_
    refine l_move ?_
    refine l_on ?_
    refine l_lens ?_
    refine l_on ?_
    refine l_cmp ?_
    refine l_pick_false ?_
    refine k_nil ?_
    exact k_out [] hB h
  refine f_t ?_
  refine k_if h (fun _ h => ?_) (fun _ h => ?_)
  · refine k_seq ?_
    refine k_reg ?_
    refine l_call h (fun _ => apostillelaw17_awake_ok) (fun v3 _ h => ?_)
    refine l_assign ?_
    refine k_nil ?_
    refine f_t ?_
    refine k_retc ?_
    refine f_tr ?_
    apply k_ret [] hB h
  refine k_skip ?_
  refine f_t ?_
  refine k_seq ?_
  refine k_reg ?_
  refine l_build ?_
  refine l_move ?_
  refine l_callN h (fun _ => call_Do_ok) (fun v4 _ h => ?_)
  refine l_move ?_
  refine l_extract ?_
  refine l_extract ?_
  refine l_alloc ?_
  refine l_store_box ?_
  refine l_assign ?_
  refine k_nil ?_
  refine f_t ?_
  refine k_seq ?_
  refine k_reg ?_
  refine l_move ?_
  refine l_cmp ?_
  refine l_move ?_
  refine l_split h (fun _ h => ?_) (fun _ h => ?_)
  · refine l_on ?_
    refine l_load_agg ?_
    refine l_on ?_
    refine l_build ?_
    refine l_on ?_
    refine l_callN h (fun _ => apostilleref16_Same_ok) (fun v5 _ h => ?_)
    refine l_pick_true ?_
    refine l_assign ?_
    refine k_nil ?_
    refine f_t ?_
    refine k_retc ?_
    apply k_ret [] hB h
  refine l_off ?_
  refine l_off ?_
  refine l_off ?_
  refine l_pick_false ?_
  refine l_assign ?_
  refine k_nil ?_
  refine f_t ?_
  refine k_retc ?_
  apply k_ret [] hB h
end Go.Proofs.YtipbfnjpfmmkfaaGreatDoor
