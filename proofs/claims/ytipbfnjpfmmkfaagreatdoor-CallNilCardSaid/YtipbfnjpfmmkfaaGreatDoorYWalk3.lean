/-
  WALKS, printed by aw.py: that the program's functions compute the plain ones. Conditions: none.
-/
import Derived.Test.YtipbfnjpfmmkfaaGreatDoorYWalk2
set_option linter.unusedVariables false
set_option linter.unusedSimpArgs false
set_option maxRecDepth 20000
set_option maxHeartbeats 4000000
namespace Go.Proofs.YtipbfnjpfmmkfaaGreatDoor
open Go Go.Abs W G
theorem parse_reader_declaration_s4_ok {u1 : Str} {u2 : Bool} {u3 : (List TNode)} {u4 : (List TOpen_)} {u5 : (List UInt8)} {r : Bool × Str} (h : parse_reader_declaration_s4 u1 u2 u3 u4 u5 = some r) : XSpec Tryz.prog 52 [.ptr 4000101 0] [(4000101, .box 95 [S u1, .sl 4000102 0 u3.length, .sl 4000103 0 u4.length, .pl (.pointer none), .sl 4000104 0 u5.length, B u2]), (4000102, .row 89 8 0 (F c_TNode u3)), (4000103, .row 168 2 0 (F c_TOpen_ u4)), (4000104, .row 5 1 0 (F cU u5))] (B r.1) [(4000101, .box 95 [S r.2, .sl 4000102 0 u3.length, .sl 4000103 0 u4.length, .pl (.pointer none), .sl 4000104 0 u5.length, B u2]), (4000102, .row 89 8 0 (F c_TNode u3)), (4000103, .row 168 2 0 (F c_TOpen_ u4)), (4000104, .row 5 1 0 (F cU u5))] [] := by
  unfold parse_reader_declaration_s4 at h
  refine X_of_run Tryz.hU Tryz.func52 (fun _ _ _ hB => ?_)
  refine k_seq ?_
  refine k_reg ?_
  refine l_assign ?_
  refine k_nil ?_
  refine f_t ?_
  refine k_seq ?_
  refine k_seq ?_
  refine k_cut (fun q4 => (.normal, ⟨[(0, .ptr 4000101 0), (26, B q4)], [(4000101, .box 95 [S u1, .sl 4000102 0 u3.length, .sl 4000103 0 u4.length, .pl (.pointer none), .sl 4000104 0 u5.length, B u2]), (4000102, .row 89 8 0 (F c_TNode u3)), (4000103, .row 168 2 0 (F c_TOpen_ u4)), (4000104, .row 5 1 0 (F cU u5))], []⟩)) h (fun t h => ?_) (fun q4 h => ?_)
  · refine k_reg ?_
    refine l_move ?_
    refine l_nilCheck ?_
    refine l_fieldAddr ?_
    refine l_load ?_
    refine l_lens ?_
    refine l_cmp ?_
    refine l_move ?_
    refine l_split h (fun _ h => ?_) (fun _ h => ?_)
    · refine l_off ?_
      refine l_off ?_
      refine l_off ?_
      refine l_off ?_
      refine l_off ?_
      refine l_off ?_
      refine l_pick_true ?_
      refine l_move ?_
      refine l_off ?_
      refine l_off ?_
      refine l_off ?_
      refine l_off ?_
      refine l_off ?_
      refine l_off ?_
      refine l_off ?_
      refine l_pick_true ?_
      refine k_nil ?_
      exact k_out [(4000101, 4000101), (4000102, 4000102), (4000103, 4000103), (4000104, 4000104)] hB h
    refine l_on ?_
    refine l_move ?_
    refine l_on ?_
    refine l_nilCheck ?_
    refine l_on ?_
    refine l_fieldAddr ?_
    refine l_on ?_
    refine l_load ?_
    refine l_on ?_
    refine l_subs h (fun v1 _ h => ?_)
    refine l_on ?_
    refine l_sne ?_
    refine l_pick_false ?_
    refine l_move ?_
    refine l_split h (fun _ h => ?_) (fun _ h => ?_)
    · refine l_off ?_
      refine l_off ?_
      refine l_off ?_
      refine l_off ?_
      refine l_off ?_
      refine l_off ?_
      refine l_off ?_
      refine l_pick_true ?_
      refine k_nil ?_
      exact k_out [(4000101, 4000101), (4000102, 4000102), (4000103, 4000103), (4000104, 4000104)] hB h
    refine l_on ?_
    refine l_move ?_
    refine l_on ?_
    refine l_nilCheck ?_
    refine l_on ?_
    refine l_fieldAddr ?_
    refine l_on ?_
    refine l_load ?_
    refine l_on ?_
    refine l_ats h (fun v2 _ h => ?_)
    refine l_on ?_
    refine l_call h (fun _ => name_Blank_ok) (fun v3 _ h => ?_)
    refine l_on ?_
    refine l_un ?_
    refine l_pick_false ?_
    refine k_nil ?_
    exact k_out [(4000101, 4000101), (4000102, 4000102), (4000103, 4000103), (4000104, 4000104)] hB h
  refine f_t ?_
  refine k_if h (fun _ h => ?_) (fun _ h => ?_)
  · refine k_seq ?_
    refine k_reg ?_
    refine l_assign ?_
    refine k_nil ?_
    refine f_t ?_
    refine k_retc ?_
    refine f_tr ?_
    apply k_ret [(4000101, 4000101), (4000102, 4000102), (4000103, 4000103), (4000104, 4000104)] hB h
  refine k_skip ?_
  refine f_t ?_
  refine k_seq ?_
  refine k_reg ?_
  refine l_move ?_
  refine l_move ?_
  refine l_nilCheck ?_
  refine l_fieldAddr ?_
  refine l_load ?_
  refine l_subs h (fun v5 _ h => ?_)
  refine l_nilCheck ?_
  refine l_fieldAddr ?_
  refine l_store_box ?_
  refine k_nil ?_
  refine f_t ?_
  refine k_seq ?_
  refine k_reg ?_
  refine l_move ?_
  refine l_nilCheck ?_
  refine l_fieldAddr ?_
  refine l_load ?_
  refine l_assign ?_
  refine k_nil ?_
  refine f_t ?_
  refine k_seq ?_
  refine k_reg ?_
  refine l_move ?_
  refine l_callX [(5000101, 4000101), (5000102, 4000102), (5000103, 4000103), (5000104, 4000104)] [4000101, 4000102, 4000103, 4000104] h (fun _ => parse_reader_blanks_s5_ok) (fun v6 _ h => ?_)
  refine k_nil ?_
  refine f_t ?_
  refine k_seq ?_
  refine k_seq ?_
  refine k_reg ?_
  refine l_move ?_
  refine l_nilCheck ?_
  refine l_fieldAddr ?_
  refine l_load ?_
  refine l_call h (fun _ => strings_HasPrefix_ok) (fun v7 _ h => ?_)
  refine l_un ?_
  refine k_nil ?_
  refine f_t ?_
  refine k_if h (fun _ h => ?_) (fun _ h => ?_)
  · refine k_seq ?_
    refine k_reg ?_
    refine l_assign ?_
    refine k_nil ?_
    refine f_t ?_
    refine k_retc ?_
    refine f_tr ?_
    apply k_ret [(4000101, 4000101), (4000102, 4000102), (4000103, 4000103), (4000104, 4000104)] hB h
  refine k_skip ?_
  refine f_t ?_
  refine k_seq ?_
  refine k_reg ?_
  refine l_move ?_
  refine l_move ?_
  refine l_nilCheck ?_
  refine l_fieldAddr ?_
  refine l_store_box ?_
  refine k_nil ?_
  refine f_t ?_
  refine k_seq ?_
  refine k_seq ?_
  refine k_reg ?_
  refine l_move ?_
  refine l_lit (e := cS) [[49, 46, 48]] ?_
  refine l_callX [(6000101, 4000101), (6000102, 4000102), (6000103, 4000103), (6000104, 4000104), (6000105, 1052)] [4000101, 4000102, 4000103, 4000104, 1052] h (fun _ => parse_reader_said_s6_ok) (fun v8 _ h => ?_)
  refine l_un ?_
  refine l_move ?_
  refine l_split h (fun _ h => ?_) (fun _ h => ?_)
  · refine l_off ?_
    refine l_off ?_
    refine l_off ?_
    refine l_pick_true ?_
    refine l_move ?_
    refine l_off ?_
    refine l_off ?_
    refine l_off ?_
    refine l_off ?_
    refine l_pick_true ?_
    refine k_nil ?_
    refine f_t ?_
    refine k_t ?_
    refine k_seq ?_
    refine k_reg ?_
    refine l_assign ?_
    refine k_nil ?_
    refine f_t ?_
    refine k_retc ?_
    refine f_tr ?_
    apply k_ret [(4000101, 4000101), (4000102, 4000102), (4000103, 4000103), (4000104, 4000104)] hB h
  refine l_on ?_
  refine l_move ?_
  refine l_on ?_
  refine l_callX [(10000101, 4000101), (10000102, 4000102), (10000103, 4000103), (10000104, 4000104)] [4000101, 4000102, 4000103, 4000104] h (fun _ => parse_reader_encoding_s10_ok) (fun v9 _ h => ?_)
  refine l_to [(4000101, 4000101), (4000102, 4000102), (4000103, 4000103), (4000104, 4000104)] ⟨[(0, .ptr 4000101 0), (55, B false), (57, B v9.1)], [(4000101, .box 95 [S v9.2, .sl 4000102 0 u3.length, .sl 4000103 0 u4.length, .pl (.pointer none), .sl 4000104 0 u5.length, B u2]), (4000102, .row 89 8 0 (F c_TNode u3)), (4000103, .row 168 2 0 (F c_TOpen_ u4)), (4000104, .row 5 1 0 (F cU u5))], []⟩ hB ?_
  refine l_on ?_
  refine l_un ?_
  refine l_pick_false ?_
  refine l_move ?_
  refine l_split h (fun _ h => ?_) (fun _ h => ?_)
  · refine l_off ?_
    refine l_off ?_
    refine l_off ?_
    refine l_off ?_
    refine l_pick_true ?_
    refine k_nil ?_
    refine f_t ?_
    refine k_t ?_
    refine k_seq ?_
    refine k_reg ?_
    refine l_assign ?_
    refine k_nil ?_
    refine f_t ?_
    refine k_retc ?_
    refine f_tr ?_
    apply k_ret [(4000101, 4000101), (4000102, 4000102), (4000103, 4000103), (4000104, 4000104)] hB h
  refine l_on ?_
  refine l_move ?_
  refine l_on ?_
  refine l_lit (e := cS) [[121, 101, 115], [110, 111]] ?_
  refine l_on ?_
  refine l_callX [(6000101, 4000101), (6000102, 4000102), (6000103, 4000103), (6000104, 4000104), (6000105, 1062)] [4000101, 4000102, 4000103, 4000104, 1062] h (fun _ => parse_reader_said_s6_ok) (fun v10 _ h => ?_)
  refine l_on ?_
  refine l_un ?_
  refine l_pick_false ?_
  refine k_nil ?_
  refine f_t ?_
  refine k_if h (fun _ h => ?_) (fun _ h => ?_)
  · refine k_seq ?_
    refine k_reg ?_
    refine l_assign ?_
    refine k_nil ?_
    refine f_t ?_
    refine k_retc ?_
    refine f_tr ?_
    apply k_ret [(4000101, 4000101), (4000102, 4000102), (4000103, 4000103), (4000104, 4000104)] hB h
  refine k_skip ?_
  refine f_t ?_
  refine k_seq ?_
  refine k_reg ?_
  refine l_move ?_
  refine l_callX [(5000101, 4000101), (5000102, 4000102), (5000103, 4000103), (5000104, 4000104)] [4000101, 4000102, 4000103, 4000104] h (fun _ => parse_reader_blanks_s5_ok) (fun v11 _ h => ?_)
  refine k_nil ?_
  refine f_t ?_
  refine k_seq ?_
  refine k_reg ?_
  refine l_move ?_
  refine l_callX [(7000101, 4000101), (7000102, 4000102), (7000103, 4000103), (7000104, 4000104)] [4000101, 4000102, 4000103, 4000104] h (fun _ => parse_reader_take_s7_ok) (fun v12 _ h => ?_)
  refine l_assign ?_
  refine k_nil ?_
  refine f_t ?_
  refine k_retc ?_
  apply k_ret [(4000101, 4000101), (4000102, 4000102), (4000103, 4000103), (4000104, 4000104)] hB h
theorem strings_Builder_Len_s14_ok {u1 : Str} {u2 : Bool} {u3 : (List TNode)} {u4 : (List TOpen_)} {u5 : (List UInt8)} {r : Int} (h : strings_Builder_Len_s14 u1 u2 u3 u4 u5 = some r) : XSpec Tryz.prog 168 [.ptr 14000101 3] [(14000101, .box 95 [S u1, .sl 14000102 0 u3.length, .sl 14000103 0 u4.length, .pl (.pointer none), .sl 14000104 0 u5.length, B u2]), (14000102, .row 89 8 0 (F c_TNode u3)), (14000103, .row 168 2 0 (F c_TOpen_ u4)), (14000104, .row 5 1 0 (F cU u5))] (I r) [(14000101, .box 95 [S u1, .sl 14000102 0 u3.length, .sl 14000103 0 u4.length, .pl (.pointer none), .sl 14000104 0 u5.length, B u2]), (14000102, .row 89 8 0 (F c_TNode u3)), (14000103, .row 168 2 0 (F c_TOpen_ u4)), (14000104, .row 5 1 0 (F cU u5))] [] := by
  unfold strings_Builder_Len_s14 at h
  refine X_of_run Tryz.hU Tryz.func168 (fun _ _ _ hB => ?_)
  refine k_seq ?_
  refine k_reg ?_
  refine l_assign ?_
  refine k_nil ?_
  refine f_t ?_
  refine k_seq ?_
  refine k_reg ?_
  refine l_move ?_
  refine l_nilCheck ?_
  refine l_fieldAddr ?_
  refine l_load ?_
  refine l_len ?_
  refine l_assign ?_
  refine k_nil ?_
  refine f_t ?_
  refine k_retc ?_
  apply k_ret [(14000101, 14000101), (14000102, 14000102), (14000103, 14000103), (14000104, 14000104)] hB h
theorem parse_reader_parent_s15_ok {u1 : Str} {u2 : Bool} {u3 : (List TNode)} {u4 : (List TOpen_)} {u5 : (List UInt8)} {r : Int} (h : parse_reader_parent_s15 u1 u2 u3 u4 u5 = some r) : XSpec Tryz.prog 127 [.ptr 15000101 0] [(15000101, .box 95 [S u1, .sl 15000102 0 u3.length, .sl 15000103 0 u4.length, .pl (.pointer none), .sl 15000104 0 u5.length, B u2]), (15000102, .row 89 8 0 (F c_TNode u3)), (15000103, .row 168 2 0 (F c_TOpen_ u4)), (15000104, .row 5 1 0 (F cU u5))] (I r) [(15000101, .box 95 [S u1, .sl 15000102 0 u3.length, .sl 15000103 0 u4.length, .pl (.pointer none), .sl 15000104 0 u5.length, B u2]), (15000102, .row 89 8 0 (F c_TNode u3)), (15000103, .row 168 2 0 (F c_TOpen_ u4)), (15000104, .row 5 1 0 (F cU u5))] [] := by
  unfold parse_reader_parent_s15 at h
  refine X_of_run Tryz.hU Tryz.func127 (fun _ _ _ hB => ?_)
  refine k_seq ?_
  refine k_reg ?_
  refine l_assign ?_
  refine k_nil ?_
  refine f_t ?_
  refine k_seq ?_
  refine k_seq ?_
  refine k_reg ?_
  refine l_move ?_
  refine l_nilCheck ?_
  refine l_fieldAddr ?_
  refine l_load ?_
  refine l_len ?_
  refine l_cmp ?_
  refine k_nil ?_
  refine f_t ?_
  refine k_if h (fun _ h => ?_) (fun _ h => ?_)
  · refine k_seq ?_
    refine k_reg ?_
    refine l_assign ?_
    refine k_nil ?_
    refine f_t ?_
    refine k_retc ?_
    refine f_tr ?_
    apply k_ret [(15000101, 15000101), (15000102, 15000102), (15000103, 15000103), (15000104, 15000104)] hB h
  refine k_skip ?_
  refine f_t ?_
  refine k_seq ?_
  refine k_mix [] (.q 0 (.q 1 (.q 2 (.q 3 (.q 4 (.q 5 (.q 6 (.q 7 (.q 8 (.q 9 (.q 10 (.q 11 (.q 12 (.q 13 (.done))))))))))))))) hm ?_
  refine gq ?_
  refine n_move ?_
  refine gq ?_
  refine n_nilCheck ?_
  refine gq ?_
  refine n_fieldAddr ?_
  refine gq ?_
  refine n_load ?_
  refine gq ?_
  refine n_move ?_
  refine gq ?_
  refine n_nilCheck ?_
  refine gq ?_
  refine n_fieldAddr ?_
  refine gq ?_
  refine n_load ?_
  refine gq ?_
  refine n_len ?_
  refine gq ?_
  refine n_subw ?_
  refine gq ?_
  refine n_ato h (fun v1 ev1 h => ?_)
  refine gq ?_
  refine n_fieldAddr ?_
  refine gq ?_
  refine n_ldr0 ev1 ?_
  refine gq ?_
  refine n_assign ?_
  refine m_nil ?_
  refine f_t ?_
  refine k_retc ?_
  apply k_ret [(15000101, 15000101), (15000102, 15000102), (15000103, 15000103), (15000104, 15000104)] hB h
theorem parse_reader_flush_s13_ok {u1 : Str} {u2 : Bool} {u3 : (List TNode)} {u4 : (List TOpen_)} {u5 : (List UInt8)} {r : Unit} (h : parse_reader_flush_s13 u1 u2 u3 u4 u5 = some r) : XSpec Tryz.prog 126 [.ptr 13000101 0] [(13000101, .box 95 [S u1, .sl 13000102 0 u3.length, .sl 13000103 0 u4.length, .pl (.pointer none), .sl 13000104 0 u5.length, B u2]), (13000102, .row 89 8 0 (F c_TNode u3)), (13000103, .row 168 2 0 (F c_TOpen_ u4)), (13000104, .row 5 1 0 (F cU u5))] (.tup []) [(13000101, .box 95 [S u1, .sl 13000102 0 u3.length, .sl 13000103 0 u4.length, .pl (.pointer none), .sl 13000104 0 u5.length, B u2]), (13000102, .row 89 8 0 (F c_TNode u3)), (13000103, .row 168 2 0 (F c_TOpen_ u4)), (13000104, .row 5 1 0 (F cU u5))] [] := by
  unfold parse_reader_flush_s13 at h
  refine X_of_run Tryz.hU Tryz.func126 (fun _ _ _ hB => ?_)
  refine k_seq ?_
  refine k_reg ?_
  refine l_move ?_
  refine l_nilCheck ?_
  refine l_fieldAddr ?_
  refine l_callX [(14000101, 13000101), (14000102, 13000102), (14000103, 13000103), (14000104, 13000104)] [13000101, 13000102, 13000103, 13000104] h (fun _ => strings_Builder_Len_s14_ok) (fun v1 _ h => ?_)
  refine l_cmp ?_
  refine k_nil ?_
  refine f_t ?_
  refine k_if h (fun _ h => ?_) (fun _ h => ?_)
  · refine k_seq ?_
    refine k_mix [6, 10, 13, 16] (.q 5 (.s 0 (.s 1 (.s 2 (.s 3 (.s 7 (.s 8 (.s 9 (.alt 4 (.e 6 (.e 10 (.q 11 (.e 12 (.e 13 (.q 14 (.q 15 (.e 16 (.done))))))))) (.e 6 (.alt 4 (.e 10 (.q 11 (.e 12 (.e 13 (.q 14 (.q 15 (.e 16 (.done)))))))) (.e 10 (.q 4 (.q 11 (.e 12 (.e 13 (.q 14 (.q 15 (.e 16 (.done)))))))))))))))))))) hm ?_
    refine gq ?_
    refine n_move ?_
    refine gs ?_
    refine x_move ?_
    refine gs ?_
    refine x_move ?_
    refine gs ?_
    refine x_nilCheck ?_
    refine gs ?_
    refine x_fieldAddr ?_
    refine gs ?_
    refine x_move ?_
    refine gs ?_
    refine x_nilCheck ?_
    refine gs ?_
    refine x_fieldAddr ?_
    cases h
  refine k_skip ?_
  apply k_ret [(13000101, 13000101), (13000102, 13000102), (13000103, 13000103), (13000104, 13000104)] hB h
theorem parse_reader_put_s12_ok {u1 : Int} {u2 : Int} {u3 : Str} {u4 : Str} {u5 : Str} {u6 : Str} {u7 : Str} {u8 : Bool} {u9 : (List TNode)} {u10 : (List TOpen_)} {u11 : (List UInt8)} {r : (List TNode)} (h : parse_reader_put_s12 u1 u2 u3 u4 u5 u6 u7 u8 u9 u10 u11 = some r) : XSpec Tryz.prog 86 [.ptr 12000101 0, .agg [I u1, I u2, S u3, S u4, S u5, S u6, .pl (.slice none 0 0), .pl (.slice none 0 0)]] [(12000101, .box 95 [S u7, .sl 12000102 0 u9.length, .sl 12000103 0 u10.length, .pl (.pointer none), .sl 12000104 0 u11.length, B u8]), (12000102, .row 89 8 0 (F c_TNode u9)), (12000103, .row 168 2 0 (F c_TOpen_ u10)), (12000104, .row 5 1 0 (F cU u11))] (.tup []) [(12000101, .box 95 [S u7, .sl 12000102 0 r.length, .sl 12000103 0 u10.length, .pl (.pointer none), .sl 12000104 0 u11.length, B u8]), (12000102, .row 89 8 0 (F c_TNode r)), (12000103, .row 168 2 0 (F c_TOpen_ u10)), (12000104, .row 5 1 0 (F cU u11))] [12000102] := by
  unfold parse_reader_put_s12 at h
  refine X_of_run Tryz.hU Tryz.func86 (fun _ _ _ hB => ?_)
  refine k_seq ?_
  refine k_reg ?_
  refine l_box ?_
  refine k_nil ?_
  refine f_t ?_
  refine k_seq ?_
  refine k_reg ?_
  refine l_move ?_
  refine l_callX [(13000101, 12000101), (13000102, 12000102), (13000103, 12000103), (13000104, 12000104)] [12000101, 12000102, 12000103, 12000104] h (fun _ => parse_reader_flush_s13_ok) (fun v1 _ h => ?_)
  refine k_nil ?_
  refine f_t ?_
  refine k_seq ?_
  refine k_reg ?_
  refine l_move ?_
  refine l_callX [(15000101, 12000101), (15000102, 12000102), (15000103, 12000103), (15000104, 12000104)] [12000101, 12000102, 12000103, 12000104] h (fun _ => parse_reader_parent_s15_ok) (fun v2 _ h => ?_)
  refine l_fieldAddr ?_
  refine l_store_box ?_
  refine k_nil ?_
  refine f_t ?_
  refine k_mix [7, 10] (.q 1 (.q 2 (.q 3 (.q 4 (.q 5 (.s 0 (.e 6 (.e 7 (.q 8 (.q 9 (.e 10 (.done)))))))))))) hm ?_
  refine gq ?_
  refine n_move ?_
  refine gq ?_
  refine n_nilCheck ?_
  refine gq ?_
  refine n_fieldAddr ?_
  refine gq ?_
  refine n_load ?_
  refine gq ?_
  refine n_load_agg ?_
  refine gs ?_
  refine x_move ?_
  refine m_nilt 14 ?_
  refine ge ?_
  refine n_lit (e := c_TNode) [(TNode.mk u1 v2 u3 u4 u5 u6 [] [])] ?_
  refine ge ?_
  refine n_appo h (fun v3 _ h => ?_)
  refine gq ?_
  refine n_nilCheck ?_
  refine gq ?_
  refine n_fieldAddr ?_
  refine ge ?_
  refine n_store_box ?_
  refine m_nil ?_
  apply k_ret [(12000101, 12000101), (12000102, 12000102), (12000103, 12000103), (12000104, 12000104)] hB h
theorem parse_reader_word_s19_ok {u1 : Str} {u2 : Bool} {u3 : (List TNode)} {u4 : (List TOpen_)} {u5 : (List UInt8)} {r : Str × Str} (h : parse_reader_word_s19 u1 u2 u3 u4 u5 = some r) : XSpec Tryz.prog 128 [.ptr 19000101 0] [(19000101, .box 95 [S u1, .sl 19000102 0 u3.length, .sl 19000103 0 u4.length, .pl (.pointer none), .sl 19000104 0 u5.length, B u2]), (19000102, .row 89 8 0 (F c_TNode u3)), (19000103, .row 168 2 0 (F c_TOpen_ u4)), (19000104, .row 5 1 0 (F cU u5))] (S r.1) [(19000101, .box 95 [S r.2, .sl 19000102 0 u3.length, .sl 19000103 0 u4.length, .pl (.pointer none), .sl 19000104 0 u5.length, B u2]), (19000102, .row 89 8 0 (F c_TNode u3)), (19000103, .row 168 2 0 (F c_TOpen_ u4)), (19000104, .row 5 1 0 (F cU u5))] [] := by
  unfold parse_reader_word_s19 at h
  refine X_of_run Tryz.hU Tryz.func128 (fun _ _ _ hB => ?_)
  refine k_seq ?_
  refine k_reg ?_
  refine l_assign ?_
  refine k_nil ?_
  refine f_t ?_
  refine k_seq ?_
  refine k_reg ?_
  refine l_assign ?_
  refine k_nil ?_
  refine f_t ?_
  refine k_seq ?_
  refine k_seq ?_
  refine k_reg ?_
  refine l_move ?_
  refine l_nilCheck ?_
  refine l_fieldAddr ?_
  refine l_load ?_
  refine l_range ?_
  refine k_nil ?_
  refine f_t ?_
  refine k_block ?_
  refine k_loop (fun y1 => ⟨[(0, .ptr 19000101 0), (3, I y1.1), (11, .it 1011)], [(19000101, .box 95 [S u1, .sl 19000102 0 u3.length, .sl 19000103 0 u4.length, .pl (.pointer none), .sl 19000104 0 u5.length, B u2]), (19000102, .row 89 8 0 (F c_TNode u3)), (19000103, .row 168 2 0 (F c_TOpen_ u4)), (19000104, .row 5 1 0 (F cU u5)), (1011, .siter ⟨u1.toArray⟩ y1.2)], []⟩) (fun q3 => (.exit 0, ⟨[(0, .ptr 19000101 0), (3, I q3)], [(19000101, .box 95 [S u1, .sl 19000102 0 u3.length, .sl 19000103 0 u4.length, .pl (.pointer none), .sl 19000104 0 u5.length, B u2]), (19000102, .row 89 8 0 (F c_TNode u3)), (19000103, .row 168 2 0 (F c_TOpen_ u4)), (19000104, .row 5 1 0 (F cU u5))], []⟩)) [(19000101, 19000101), (19000102, 19000102), (19000103, 19000103), (19000104, 19000104), (1011, 1011)] hB h (fun y1 t h => ?_) (fun q3 h => ?_)
  · unfold parse_reader_word_s19_b1 at h
    refine k_seq ?_
    refine k_reg ?_
    refine l_next h (fun _ h => ?_) (fun _ h => ?_)
    · refine l_extract ?_
      refine k_nil ?_
      refine f_t ?_
      refine k_seq ?_
      refine k_t ?_
      refine k_skip ?_
      refine f_t ?_
      refine k_block ?_
      refine k_seq ?_
      refine k_reg ?_
      refine l_extract ?_
      refine l_extract ?_
      refine l_assign ?_
      refine l_assign ?_
      refine k_nil ?_
      refine f_t ?_
      refine k_seq ?_
      refine k_seq ?_
      refine k_reg ?_
      refine l_move ?_
      refine l_cmp ?_
      refine l_move ?_
      refine l_split h (fun _ h => ?_) (fun _ h => ?_)
      · refine l_on ?_
        refine l_move ?_
        refine l_on ?_
        refine l_call h (fun _ => name_Stands_ok) (fun v2 _ h => ?_)
        refine l_on ?_
        refine l_un ?_
        refine l_pick_true ?_
        refine k_nil ?_
        refine f_t ?_
        refine k_if h (fun _ h => ?_) (fun _ h => ?_)
        · refine k_exit ?_
          refine f_te ?_
          refine f_bo ?_
          exact k_brk [(19000101, 19000101), (19000102, 19000102), (19000103, 19000103), (19000104, 19000104)] hB h
        refine k_skip ?_
        refine f_t ?_
        refine k_reg ?_
        refine l_move ?_
        refine l_move ?_
        refine l_istr ?_
        refine l_lens ?_
        refine l_addw ?_
        refine l_assign ?_
        refine k_nil ?_
        refine f_b ?_
        exact k_next [(19000101, 19000101), (19000102, 19000102), (19000103, 19000103), (19000104, 19000104), (1011, 1011)] hB h
      refine l_off ?_
      refine l_off ?_
      refine l_off ?_
      refine l_pick_false ?_
      refine k_nil ?_
      refine f_t ?_
      refine k_f ?_
      refine k_skip ?_
      refine f_t ?_
      refine k_reg ?_
      refine l_move ?_
      refine l_move ?_
      refine l_istr ?_
      refine l_lens ?_
      refine l_addw ?_
      refine l_assign ?_
      refine k_nil ?_
      refine f_b ?_
      exact k_next [(19000101, 19000101), (19000102, 19000102), (19000103, 19000103), (19000104, 19000104), (1011, 1011)] hB h
    refine l_extract ?_
    refine k_nil ?_
    refine f_t ?_
    refine k_seq ?_
    refine k_f ?_
    refine k_exit ?_
    refine f_te ?_
    exact k_brk [(19000101, 19000101), (19000102, 19000102), (19000103, 19000103), (19000104, 19000104)] hB h
  refine f_be ?_
  refine f_t ?_
  refine k_seq ?_
  refine k_reg ?_
  refine l_move ?_
  refine l_nilCheck ?_
  refine l_fieldAddr ?_
  refine l_load ?_
  refine l_move ?_
  refine l_subs h (fun v4 _ h => ?_)
  refine l_assign ?_
  refine k_nil ?_
  refine f_t ?_
  refine k_seq ?_
  refine k_reg ?_
  refine l_move ?_
  refine l_move ?_
  refine l_nilCheck ?_
  refine l_fieldAddr ?_
  refine l_load ?_
  refine l_move ?_
  refine l_subs h (fun v5 _ h => ?_)
  refine l_nilCheck ?_
  refine l_fieldAddr ?_
  refine l_store_box ?_
  refine k_nil ?_
  refine f_t ?_
  refine k_seq ?_
  refine k_reg ?_
  refine l_move ?_
  refine l_assign ?_
  refine k_nil ?_
  refine f_t ?_
  refine k_retc ?_
  apply k_ret [(19000101, 19000101), (19000102, 19000102), (19000103, 19000103), (19000104, 19000104)] hB h
theorem parse_reader_instruction_s18_ok {u1 : Str} {u2 : Bool} {u3 : (List TNode)} {u4 : (List TOpen_)} {u5 : (List UInt8)} {r : Bool × Str × (List TNode)} (h : parse_reader_instruction_s18 u1 u2 u3 u4 u5 = some r) : XSpec Tryz.prog 87 [.ptr 18000101 0] [(18000101, .box 95 [S u1, .sl 18000102 0 u3.length, .sl 18000103 0 u4.length, .pl (.pointer none), .sl 18000104 0 u5.length, B u2]), (18000102, .row 89 8 0 (F c_TNode u3)), (18000103, .row 168 2 0 (F c_TOpen_ u4)), (18000104, .row 5 1 0 (F cU u5))] (B r.1) [(18000101, .box 95 [S r.2.1, .sl 18000102 0 r.2.2.length, .sl 18000103 0 u4.length, .pl (.pointer none), .sl 18000104 0 u5.length, B u2]), (18000102, .row 89 8 0 (F c_TNode r.2.2)), (18000103, .row 168 2 0 (F c_TOpen_ u4)), (18000104, .row 5 1 0 (F cU u5))] [18000102] := by
  unfold parse_reader_instruction_s18 at h
  refine X_of_run Tryz.hU Tryz.func87 (fun _ _ _ hB => ?_)
  refine k_seq ?_
  refine k_reg ?_
  refine l_assign ?_
  refine k_nil ?_
  refine f_t ?_
  refine k_seq ?_
  refine k_reg ?_
  refine l_move ?_
  refine l_callX [(19000101, 18000101), (19000102, 18000102), (19000103, 18000103), (19000104, 18000104)] [18000101, 18000102, 18000103, 18000104] h (fun _ => parse_reader_word_s19_ok) (fun v1 _ h => ?_)
  refine l_assign ?_
  refine k_nil ?_
  refine f_t ?_
  refine k_seq ?_
  refine k_reg ?_
  refine l_move ?_
  refine l_callX [(5000101, 18000101), (5000102, 18000102), (5000103, 18000103), (5000104, 18000104)] [18000101, 18000102, 18000103, 18000104] h (fun _ => parse_reader_blanks_s5_ok) (fun v2 _ h => ?_)
  refine l_assign ?_
  refine k_nil ?_
  refine f_t ?_
  refine k_seq ?_
  refine k_reg ?_
  refine l_move ?_
  refine l_callX [(9000101, 18000101), (9000102, 18000102), (9000103, 18000103), (9000104, 18000104)] [18000101, 18000102, 18000103, 18000104] h (fun _ => parse_reader_until_s9_ok) (fun v3 _ h => ?_)
  refine l_move ?_
  refine l_extract ?_
  refine l_extract ?_
  refine l_assign ?_
  refine l_assign ?_
  refine k_nil ?_
  refine f_t ?_
  refine k_seq ?_
  refine k_seq ?_
  refine k_reg ?_
  refine l_move ?_
  refine l_un ?_
  refine l_move ?_
  refine l_split h (fun _ h => ?_) (fun _ h => ?_)
  · refine l_off ?_
    refine l_off ?_
    refine l_off ?_
    refine l_off ?_
    refine l_off ?_
    refine l_off ?_
    refine l_pick_true ?_
    refine k_nil ?_
    refine f_t ?_
    refine k_t ?_
    refine k_seq ?_
    refine k_reg ?_
    refine l_assign ?_
    refine k_nil ?_
    refine f_t ?_
    refine k_retc ?_
    refine f_tr ?_
    apply k_ret [(18000101, 18000101), (18000102, 18000102), (18000103, 18000103), (18000104, 18000104)] hB h
  refine l_on ?_
  refine l_move ?_
  refine l_on ?_
  refine l_un ?_
  refine l_on ?_
  refine l_move ?_
  refine l_split h (fun _ h => ?_) (fun _ h => ?_)
  · refine l_on ?_
    refine l_move ?_
    refine l_on ?_
    refine l_sne ?_
    refine l_on ?_
    refine l_pick_true ?_
    refine l_pick_false ?_
    refine k_nil ?_
    refine f_t ?_
    refine k_if h (fun _ h => ?_) (fun _ h => ?_)
    · refine k_seq ?_
      refine k_reg ?_
      refine l_assign ?_
      refine k_nil ?_
      refine f_t ?_
      refine k_retc ?_
      refine f_tr ?_
      apply k_ret [(18000101, 18000101), (18000102, 18000102), (18000103, 18000103), (18000104, 18000104)] hB h
    refine k_skip ?_
    refine f_t ?_
    refine k_seq ?_
    refine k_reg ?_
    refine l_move ?_
    refine l_move ?_
    refine l_move ?_
    refine l_build ?_
    refine l_callX [(12000101, 18000101), (12000102, 18000102), (12000103, 18000103), (12000104, 18000104)] [18000101, 18000102, 18000103, 18000104] h (fun _ => parse_reader_put_s12_ok) (fun v4 _ h => ?_)
    refine k_nil ?_
    refine f_t ?_
    refine k_seq ?_
    refine k_reg ?_
    refine l_assign ?_
    refine k_nil ?_
    refine f_t ?_
    refine k_retc ?_
    apply k_ret [(18000101, 18000101), (18000102, 18000102), (18000103, 18000103), (18000104, 18000104)] hB h
  refine l_off ?_
  refine l_off ?_
  refine l_on ?_
  refine l_pick_false ?_
  refine l_pick_false ?_
  refine k_nil ?_
  refine f_t ?_
  refine k_f ?_
  refine k_skip ?_
  refine f_t ?_
  refine k_seq ?_
  refine k_reg ?_
  refine l_move ?_
  refine l_move ?_
  refine l_move ?_
  refine l_build ?_
  refine l_callX [(12000101, 18000101), (12000102, 18000102), (12000103, 18000103), (12000104, 18000104)] [18000101, 18000102, 18000103, 18000104] h (fun _ => parse_reader_put_s12_ok) (fun v5 _ h => ?_)
  refine k_nil ?_
  refine f_t ?_
  refine k_seq ?_
  refine k_reg ?_
  refine l_assign ?_
  refine k_nil ?_
  refine f_t ?_
  refine k_retc ?_
  apply k_ret [(18000101, 18000101), (18000102, 18000102), (18000103, 18000103), (18000104, 18000104)] hB h
theorem parse_reader_finish_s20_ok {u1 : Str} {u2 : Bool} {u3 : (List TNode)} {u4 : (List TOpen_)} {u5 : (List UInt8)} {r : Bool × Str × (List TOpen_)} (h : parse_reader_finish_s20 u1 u2 u3 u4 u5 = some r) : XSpec Tryz.prog 88 [.ptr 20000101 0] [(20000101, .box 95 [S u1, .sl 20000102 0 u3.length, .sl 20000103 0 u4.length, .pl (.pointer none), .sl 20000104 0 u5.length, B u2]), (20000102, .row 89 8 0 (F c_TNode u3)), (20000103, .row 168 2 0 (F c_TOpen_ u4)), (20000104, .row 5 1 0 (F cU u5))] (B r.1) [(20000101, .box 95 [S r.2.1, .sl 20000102 0 u3.length, .sl 20000103 0 r.2.2.length, .pl (.pointer none), .sl 20000104 0 u5.length, B u2]), (20000102, .row 89 8 0 (F c_TNode u3)), (20000103, .row 168 2 0 (F c_TOpen_ r.2.2)), (20000104, .row 5 1 0 (F cU u5))] [] := by
  unfold parse_reader_finish_s20 at h
  refine X_of_run Tryz.hU Tryz.func88 (fun _ _ _ hB => ?_)
  refine k_seq ?_
  refine k_reg ?_
  refine l_assign ?_
  refine k_nil ?_
  refine f_t ?_
  refine k_seq ?_
  refine k_reg ?_
  refine l_move ?_
  refine l_nilCheck ?_
  refine l_fieldAddr ?_
  refine l_load ?_
  refine l_len ?_
  refine l_subw ?_
  refine l_assign ?_
  refine k_nil ?_
  refine f_t ?_
  refine k_seq ?_
  refine k_seq ?_
  refine k_cut (fun q3 => (.normal, ⟨[(0, .ptr 20000101 0), (3, I (w64 ((u4.length : Int) - 1))), (24, B q3.1)], [(20000101, .box 95 [S q3.2, .sl 20000102 0 u3.length, .sl 20000103 0 u4.length, .pl (.pointer none), .sl 20000104 0 u5.length, B u2]), (20000102, .row 89 8 0 (F c_TNode u3)), (20000103, .row 168 2 0 (F c_TOpen_ u4)), (20000104, .row 5 1 0 (F cU u5))], []⟩)) h (fun t h => ?_) (fun q3 h => ?_)
  · refine k_mix [4] (.q 0 (.q 1 (.q 2 (.q 3 (.alt 4 (.q 5 (.q 6 (.q 7 (.q 8 (.q 9 (.q 10 (.q 11 (.q 12 (.q 13 (.q 14 (.done))))))))))) (.alt 5 (.alt 4 (.q 6 (.q 7 (.q 8 (.q 9 (.q 10 (.q 11 (.q 12 (.q 13 (.q 14 (.done)))))))))) (.alt 6 (.alt 4 (.q 7 (.q 8 (.q 9 (.q 10 (.q 11 (.q 12 (.q 13 (.q 14 (.done))))))))) (.alt 7 (.alt 4 (.q 8 (.q 9 (.q 10 (.q 11 (.q 12 (.q 13 (.q 14 (.done)))))))) (.alt 8 (.alt 4 (.q 9 (.q 10 (.q 11 (.q 12 (.q 13 (.q 14 (.done))))))) (.e 9 (.alt 4 (.q 10 (.q 11 (.q 12 (.q 13 (.q 14 (.done)))))) (.e 10 (.alt 4 (.q 11 (.q 12 (.q 13 (.q 14 (.done))))) (.e 11 (.alt 4 (.q 12 (.q 13 (.q 14 (.done)))) (.e 12 (.e 4 (.q 13 (.q 14 (.done)))))))))))) (.e 9 (.alt 4 (.q 8 (.q 10 (.q 11 (.q 12 (.q 13 (.q 14 (.done))))))) (.e 8 (.alt 4 (.q 10 (.q 11 (.q 12 (.q 13 (.q 14 (.done)))))) (.e 10 (.alt 4 (.q 11 (.q 12 (.q 13 (.q 14 (.done))))) (.e 11 (.alt 4 (.q 12 (.q 13 (.q 14 (.done)))) (.e 12 (.e 4 (.q 13 (.q 14 (.done))))))))))))))) (.e 9 (.alt 4 (.q 7 (.q 8 (.q 10 (.q 11 (.q 12 (.q 13 (.q 14 (.done)))))))) (.e 7 (.alt 4 (.q 8 (.q 10 (.q 11 (.q 12 (.q 13 (.q 14 (.done))))))) (.e 8 (.alt 4 (.q 10 (.q 11 (.q 12 (.q 13 (.q 14 (.done)))))) (.e 10 (.alt 4 (.q 11 (.q 12 (.q 13 (.q 14 (.done))))) (.e 11 (.alt 4 (.q 12 (.q 13 (.q 14 (.done)))) (.e 12 (.e 4 (.q 13 (.q 14 (.done))))))))))))))))) (.e 9 (.alt 4 (.q 6 (.q 7 (.q 8 (.q 10 (.q 11 (.q 12 (.q 13 (.q 14 (.done))))))))) (.e 6 (.alt 4 (.q 7 (.q 8 (.q 10 (.q 11 (.q 12 (.q 13 (.q 14 (.done)))))))) (.e 7 (.alt 4 (.q 8 (.q 10 (.q 11 (.q 12 (.q 13 (.q 14 (.done))))))) (.e 8 (.alt 4 (.q 10 (.q 11 (.q 12 (.q 13 (.q 14 (.done)))))) (.e 10 (.alt 4 (.q 11 (.q 12 (.q 13 (.q 14 (.done))))) (.e 11 (.alt 4 (.q 12 (.q 13 (.q 14 (.done)))) (.e 12 (.e 4 (.q 13 (.q 14 (.done))))))))))))))))))) (.e 9 (.alt 4 (.q 5 (.q 6 (.q 7 (.q 8 (.q 10 (.q 11 (.q 12 (.q 13 (.q 14 (.done)))))))))) (.e 5 (.alt 4 (.q 6 (.q 7 (.q 8 (.q 10 (.q 11 (.q 12 (.q 13 (.q 14 (.done))))))))) (.e 6 (.alt 4 (.q 7 (.q 8 (.q 10 (.q 11 (.q 12 (.q 13 (.q 14 (.done)))))))) (.e 7 (.alt 4 (.q 8 (.q 10 (.q 11 (.q 12 (.q 13 (.q 14 (.done))))))) (.e 8 (.alt 4 (.q 10 (.q 11 (.q 12 (.q 13 (.q 14 (.done)))))) (.e 10 (.alt 4 (.q 11 (.q 12 (.q 13 (.q 14 (.done))))) (.e 11 (.alt 4 (.q 12 (.q 13 (.q 14 (.done)))) (.e 12 (.e 4 (.q 13 (.q 14 (.done))))))))))))))))))))))))) hm ?_
    refine gq ?_
    refine n_move ?_
    refine gq ?_
    refine n_cmp ?_
    refine gq ?_
    refine n_move ?_
    refine gq ?_
    refine n_split h (fun _ h => ?_) (fun _ h => ?_)
    · refine n_off ?_
      refine m_alt ?_ (m_alt ?_ ?_)
      · refine ge ?_
        refine n_off ?_
        refine gq ?_
        refine n_off ?_
        refine gq ?_
        refine n_off ?_
        refine gq ?_
        refine n_off ?_
        refine gq ?_
        refine n_off ?_
        refine gq ?_
        refine n_off ?_
        refine gq ?_
        refine n_off ?_
        refine gq ?_
        refine n_off ?_
        refine gq ?_
        refine n_off ?_
        refine gq ?_
        refine n_off ?_
        refine gq ?_
        refine n_pick_true ?_
        refine m_nil ?_
        exact k_out [(20000101, 20000101), (20000102, 20000102), (20000103, 20000103), (20000104, 20000104)] hB h
      · refine geq ?_
        refine n_off ?_
        refine m_alt ?_ (m_alt ?_ ?_)
        · refine ge ?_
          refine n_off ?_
          refine gq ?_
          refine n_off ?_
          refine gq ?_
          refine n_off ?_
          refine gq ?_
          refine n_off ?_
          refine gq ?_
          refine n_off ?_
          refine gq ?_
          refine n_off ?_
          refine gq ?_
          refine n_off ?_
          refine gq ?_
          refine n_off ?_
          refine gq ?_
          refine n_off ?_
          refine gq ?_
          refine n_pick_true ?_
          refine m_nil ?_
          exact k_out [(20000101, 20000101), (20000102, 20000102), (20000103, 20000103), (20000104, 20000104)] hB h
        · refine geq ?_
          refine n_off ?_
          refine m_alt ?_ (m_alt ?_ ?_)
          · refine ge ?_
            refine n_off ?_
            refine gq ?_
            refine n_off ?_
            refine gq ?_
            refine n_off ?_
            refine gq ?_
            refine n_off ?_
            refine gq ?_
            refine n_off ?_
            refine gq ?_
            refine n_off ?_
            refine gq ?_
            refine n_off ?_
            refine gq ?_
            refine n_off ?_
            refine gq ?_
            refine n_pick_true ?_
            refine m_nil ?_
            exact k_out [(20000101, 20000101), (20000102, 20000102), (20000103, 20000103), (20000104, 20000104)] hB h
          · refine geq ?_
            refine n_off ?_
            refine m_alt ?_ (m_alt ?_ ?_)
            · refine ge ?_
              refine n_off ?_
              refine gq ?_
              refine n_off ?_
              refine gq ?_
              refine n_off ?_
              refine gq ?_
              refine n_off ?_
              refine gq ?_
              refine n_off ?_
              refine gq ?_
              refine n_off ?_
              refine gq ?_
              refine n_off ?_
              refine gq ?_
              refine n_pick_true ?_
              refine m_nil ?_
              exact k_out [(20000101, 20000101), (20000102, 20000102), (20000103, 20000103), (20000104, 20000104)] hB h
            · refine geq ?_
              refine n_off ?_
              refine m_alt ?_ ?_
              · refine ge ?_
                refine n_off ?_
                refine gq ?_
                refine n_off ?_
                refine gq ?_
                refine n_off ?_
                refine gq ?_
                refine n_off ?_
                refine gq ?_
                refine n_off ?_
                refine gq ?_
                refine n_off ?_
                refine gq ?_
                refine n_pick_true ?_
                refine m_nil ?_
                exact k_out [(20000101, 20000101), (20000102, 20000102), (20000103, 20000103), (20000104, 20000104)] hB h
              refine geq ?_
              refine n_off ?_
              refine m_alt ?_ ?_
              · refine ge ?_
                refine n_off ?_
                refine gq ?_
                refine n_off ?_
                refine gq ?_
                refine n_off ?_
                refine gq ?_
                refine n_off ?_
                refine gq ?_
                refine n_off ?_
                refine gq ?_
                refine n_pick_true ?_
                refine m_nil ?_
                exact k_out [(20000101, 20000101), (20000102, 20000102), (20000103, 20000103), (20000104, 20000104)] hB h
              refine geq ?_
              refine n_off ?_
              refine m_alt ?_ ?_
              · refine ge ?_
                refine n_off ?_
                refine gq ?_
                refine n_off ?_
                refine gq ?_
                refine n_off ?_
                refine gq ?_
                refine n_off ?_
                refine gq ?_
                refine n_pick_true ?_
                refine m_nil ?_
                exact k_out [(20000101, 20000101), (20000102, 20000102), (20000103, 20000103), (20000104, 20000104)] hB h
              refine geq ?_
              refine n_off ?_
              refine m_alt ?_ ?_
              · refine ge ?_
                refine n_off ?_
                refine gq ?_
                refine n_off ?_
                refine gq ?_
                refine n_off ?_
                refine gq ?_
                refine n_pick_true ?_
                refine m_nil ?_
                exact k_out [(20000101, 20000101), (20000102, 20000102), (20000103, 20000103), (20000104, 20000104)] hB h
              refine geq ?_
              refine n_off ?_
              refine ge ?_
              refine n_off ?_
              refine gq ?_
              refine n_off ?_
              refine gq ?_
              refine n_pick_true ?_
              refine m_nil ?_
              exact k_out [(20000101, 20000101), (20000102, 20000102), (20000103, 20000103), (20000104, 20000104)] hB h
            refine geq ?_
            refine n_off ?_
            refine m_alt ?_ ?_
            · refine ge ?_
              refine n_off ?_
              refine gq ?_
              refine n_off ?_
              refine gq ?_
              refine n_off ?_
              refine gq ?_
              refine n_off ?_
              refine gq ?_
              refine n_off ?_
              refine gq ?_
              refine n_off ?_
              refine gq ?_
              refine n_pick_true ?_
              refine m_nil ?_
              exact k_out [(20000101, 20000101), (20000102, 20000102), (20000103, 20000103), (20000104, 20000104)] hB h
            refine geq ?_
            refine n_off ?_
            refine m_alt ?_ ?_
            · refine ge ?_
              refine n_off ?_
              refine gq ?_
              refine n_off ?_
              refine gq ?_
              refine n_off ?_
              refine gq ?_
              refine n_off ?_
              refine gq ?_
              refine n_off ?_
              refine gq ?_
              refine n_pick_true ?_
              refine m_nil ?_
              exact k_out [(20000101, 20000101), (20000102, 20000102), (20000103, 20000103), (20000104, 20000104)] hB h
            refine geq ?_
            refine n_off ?_
            refine m_alt ?_ ?_
            · refine ge ?_
              refine n_off ?_
              refine gq ?_
              refine n_off ?_
              refine gq ?_
              refine n_off ?_
              refine gq ?_
              refine n_off ?_
              refine gq ?_
              refine n_pick_true ?_
              refine m_nil ?_
              exact k_out [(20000101, 20000101), (20000102, 20000102), (20000103, 20000103), (20000104, 20000104)] hB h
            refine geq ?_
            refine n_off ?_
            refine m_alt ?_ ?_
            · refine ge ?_
              refine n_off ?_
              refine gq ?_
              refine n_off ?_
              refine gq ?_
              refine n_off ?_
              refine gq ?_
              refine n_pick_true ?_
              refine m_nil ?_
              exact k_out [(20000101, 20000101), (20000102, 20000102), (20000103, 20000103), (20000104, 20000104)] hB h
            refine geq ?_
            refine n_off ?_
            refine ge ?_
            refine n_off ?_
            refine gq ?_
            refine n_off ?_
            refine gq ?_
            refine n_pick_true ?_
            refine m_nil ?_
            exact k_out [(20000101, 20000101), (20000102, 20000102), (20000103, 20000103), (20000104, 20000104)] hB h
          refine geq ?_
          refine n_off ?_
          refine m_alt ?_ ?_
          · refine ge ?_
            refine n_off ?_
            refine gq ?_
            refine n_off ?_
            refine gq ?_
            refine n_off ?_
            refine gq ?_
            refine n_off ?_
            refine gq ?_
            refine n_off ?_
            refine gq ?_
            refine n_off ?_
            refine gq ?_
            refine n_off ?_
            refine gq ?_
            refine n_pick_true ?_
            refine m_nil ?_
            exact k_out [(20000101, 20000101), (20000102, 20000102), (20000103, 20000103), (20000104, 20000104)] hB h
          refine geq ?_
          refine n_off ?_
          refine m_alt ?_ ?_
          · refine ge ?_
            refine n_off ?_
            refine gq ?_
            refine n_off ?_
            refine gq ?_
            refine n_off ?_
            refine gq ?_
            refine n_off ?_
            refine gq ?_
            refine n_off ?_
            refine gq ?_
            refine n_off ?_
            refine gq ?_
            refine n_pick_true ?_
            refine m_nil ?_
            exact k_out [(20000101, 20000101), (20000102, 20000102), (20000103, 20000103), (20000104, 20000104)] hB h
          refine geq ?_
          refine n_off ?_
          refine m_alt ?_ ?_
          · refine ge ?_
            refine n_off ?_
            refine gq ?_
            refine n_off ?_
            refine gq ?_
            refine n_off ?_
            refine gq ?_
            refine n_off ?_
            refine gq ?_
            refine n_off ?_
            refine gq ?_
            refine n_pick_true ?_
            refine m_nil ?_
            exact k_out [(20000101, 20000101), (20000102, 20000102), (20000103, 20000103), (20000104, 20000104)] hB h
          refine geq ?_
          refine n_off ?_
          refine m_alt ?_ ?_
          · refine ge ?_
            refine n_off ?_
            refine gq ?_
            refine n_off ?_
            refine gq ?_
            refine n_off ?_
            refine gq ?_
            refine n_off ?_
            refine gq ?_
            refine n_pick_true ?_
            refine m_nil ?_
            exact k_out [(20000101, 20000101), (20000102, 20000102), (20000103, 20000103), (20000104, 20000104)] hB h
          refine geq ?_
          refine n_off ?_
          refine m_alt ?_ ?_
          · refine ge ?_
            refine n_off ?_
            refine gq ?_
            refine n_off ?_
            refine gq ?_
            refine n_off ?_
            refine gq ?_
            refine n_pick_true ?_
            refine m_nil ?_
            exact k_out [(20000101, 20000101), (20000102, 20000102), (20000103, 20000103), (20000104, 20000104)] hB h
          refine geq ?_
          refine n_off ?_
          refine ge ?_
          refine n_off ?_
          refine gq ?_
          refine n_off ?_
          refine gq ?_
          refine n_pick_true ?_
          refine m_nil ?_
          exact k_out [(20000101, 20000101), (20000102, 20000102), (20000103, 20000103), (20000104, 20000104)] hB h
        refine geq ?_
        refine n_off ?_
        refine m_alt ?_ ?_
        · refine ge ?_
          refine n_off ?_
          refine gq ?_
          refine n_off ?_
          refine gq ?_
          refine n_off ?_
          refine gq ?_
          refine n_off ?_
          refine gq ?_
          refine n_off ?_
          refine gq ?_
          refine n_off ?_
          refine gq ?_
          refine n_off ?_
          refine gq ?_
          refine n_off ?_
          refine gq ?_
          refine n_pick_true ?_
          refine m_nil ?_
          exact k_out [(20000101, 20000101), (20000102, 20000102), (20000103, 20000103), (20000104, 20000104)] hB h
        refine geq ?_
        refine n_off ?_
        refine m_alt ?_ ?_
        · refine ge ?_
          refine n_off ?_
          refine gq ?_
          refine n_off ?_
          refine gq ?_
          refine n_off ?_
          refine gq ?_
          refine n_off ?_
          refine gq ?_
          refine n_off ?_
          refine gq ?_
          refine n_off ?_
          refine gq ?_
          refine n_off ?_
          refine gq ?_
          refine n_pick_true ?_
          refine m_nil ?_
          exact k_out [(20000101, 20000101), (20000102, 20000102), (20000103, 20000103), (20000104, 20000104)] hB h
        refine geq ?_
        refine n_off ?_
        refine m_alt ?_ ?_
        · refine ge ?_
          refine n_off ?_
          refine gq ?_
          refine n_off ?_
          refine gq ?_
          refine n_off ?_
          refine gq ?_
          refine n_off ?_
          refine gq ?_
          refine n_off ?_
          refine gq ?_
          refine n_off ?_
          refine gq ?_
          refine n_pick_true ?_
          refine m_nil ?_
          exact k_out [(20000101, 20000101), (20000102, 20000102), (20000103, 20000103), (20000104, 20000104)] hB h
        refine geq ?_
        refine n_off ?_
        refine m_alt ?_ ?_
        · refine ge ?_
          refine n_off ?_
          refine gq ?_
          refine n_off ?_
          refine gq ?_
          refine n_off ?_
          refine gq ?_
          refine n_off ?_
          refine gq ?_
          refine n_off ?_
          refine gq ?_
          refine n_pick_true ?_
          refine m_nil ?_
          exact k_out [(20000101, 20000101), (20000102, 20000102), (20000103, 20000103), (20000104, 20000104)] hB h
        refine geq ?_
        refine n_off ?_
        refine m_alt ?_ ?_
        · refine ge ?_
          refine n_off ?_
          refine gq ?_
          refine n_off ?_
          refine gq ?_
          refine n_off ?_
          refine gq ?_
          refine n_off ?_
          refine gq ?_
          refine n_pick_true ?_
          refine m_nil ?_
          exact k_out [(20000101, 20000101), (20000102, 20000102), (20000103, 20000103), (20000104, 20000104)] hB h
        refine geq ?_
        refine n_off ?_
        refine m_alt ?_ ?_
        · refine ge ?_
          refine n_off ?_
          refine gq ?_
          refine n_off ?_
          refine gq ?_
          refine n_off ?_
          refine gq ?_
          refine n_pick_true ?_
          refine m_nil ?_
          exact k_out [(20000101, 20000101), (20000102, 20000102), (20000103, 20000103), (20000104, 20000104)] hB h
        refine geq ?_
        refine n_off ?_
        refine ge ?_
        refine n_off ?_
        refine gq ?_
        refine n_off ?_
        refine gq ?_
        refine n_pick_true ?_
        refine m_nil ?_
        exact k_out [(20000101, 20000101), (20000102, 20000102), (20000103, 20000103), (20000104, 20000104)] hB h
      refine geq ?_
      refine n_off ?_
      refine m_alt ?_ ?_
      · refine ge ?_
        refine n_off ?_
        refine gq ?_
        refine n_off ?_
        refine gq ?_
        refine n_off ?_
        refine gq ?_
        refine n_off ?_
        refine gq ?_
        refine n_off ?_
        refine gq ?_
        refine n_off ?_
        refine gq ?_
        refine n_off ?_
        refine gq ?_
        refine n_off ?_
        refine gq ?_
        refine n_off ?_
        refine gq ?_
        refine n_pick_true ?_
        refine m_nil ?_
        exact k_out [(20000101, 20000101), (20000102, 20000102), (20000103, 20000103), (20000104, 20000104)] hB h
      refine geq ?_
      refine n_off ?_
      refine m_alt ?_ ?_
      · refine ge ?_
        refine n_off ?_
        refine gq ?_
        refine n_off ?_
        refine gq ?_
        refine n_off ?_
        refine gq ?_
        refine n_off ?_
        refine gq ?_
        refine n_off ?_
        refine gq ?_
        refine n_off ?_
        refine gq ?_
        refine n_off ?_
        refine gq ?_
        refine n_off ?_
        refine gq ?_
        refine n_pick_true ?_
        refine m_nil ?_
        exact k_out [(20000101, 20000101), (20000102, 20000102), (20000103, 20000103), (20000104, 20000104)] hB h
      refine geq ?_
      refine n_off ?_
      refine m_alt ?_ ?_
      · refine ge ?_
        refine n_off ?_
        refine gq ?_
        refine n_off ?_
        refine gq ?_
        refine n_off ?_
        refine gq ?_
        refine n_off ?_
        refine gq ?_
        refine n_off ?_
        refine gq ?_
        refine n_off ?_
        refine gq ?_
        refine n_off ?_
        refine gq ?_
        refine n_pick_true ?_
        refine m_nil ?_
        exact k_out [(20000101, 20000101), (20000102, 20000102), (20000103, 20000103), (20000104, 20000104)] hB h
      refine geq ?_
      refine n_off ?_
      refine m_alt ?_ ?_
      · refine ge ?_
        refine n_off ?_
        refine gq ?_
        refine n_off ?_
        refine gq ?_
        refine n_off ?_
        refine gq ?_
        refine n_off ?_
        refine gq ?_
        refine n_off ?_
        refine gq ?_
        refine n_off ?_
        refine gq ?_
        refine n_pick_true ?_
        refine m_nil ?_
        exact k_out [(20000101, 20000101), (20000102, 20000102), (20000103, 20000103), (20000104, 20000104)] hB h
      refine geq ?_
      refine n_off ?_
      refine m_alt ?_ ?_
      · refine ge ?_
        refine n_off ?_
        refine gq ?_
        refine n_off ?_
        refine gq ?_
        refine n_off ?_
        refine gq ?_
        refine n_off ?_
        refine gq ?_
        refine n_off ?_
        refine gq ?_
        refine n_pick_true ?_
        refine m_nil ?_
        exact k_out [(20000101, 20000101), (20000102, 20000102), (20000103, 20000103), (20000104, 20000104)] hB h
      refine geq ?_
      refine n_off ?_
      refine m_alt ?_ ?_
      · refine ge ?_
        refine n_off ?_
        refine gq ?_
        refine n_off ?_
        refine gq ?_
        refine n_off ?_
        refine gq ?_
        refine n_off ?_
        refine gq ?_
        refine n_pick_true ?_
        refine m_nil ?_
        exact k_out [(20000101, 20000101), (20000102, 20000102), (20000103, 20000103), (20000104, 20000104)] hB h
      refine geq ?_
      refine n_off ?_
      refine m_alt ?_ ?_
      · refine ge ?_
        refine n_off ?_
        refine gq ?_
        refine n_off ?_
        refine gq ?_
        refine n_off ?_
        refine gq ?_
        refine n_pick_true ?_
        refine m_nil ?_
        exact k_out [(20000101, 20000101), (20000102, 20000102), (20000103, 20000103), (20000104, 20000104)] hB h
      refine geq ?_
      refine n_off ?_
      refine ge ?_
      refine n_off ?_
      refine gq ?_
      refine n_off ?_
      refine gq ?_
      refine n_pick_true ?_
      refine m_nil ?_
      exact k_out [(20000101, 20000101), (20000102, 20000102), (20000103, 20000103), (20000104, 20000104)] hB h
    refine n_on ?_
    refine n_move ?_
    cases h
  refine f_t ?_
  refine k_if h (fun _ h => ?_) (fun _ h => ?_)
  · refine k_seq ?_
    refine k_reg ?_
    refine l_assign ?_
    refine k_nil ?_
    refine f_t ?_
    refine k_retc ?_
    refine f_tr ?_
    apply k_ret [(20000101, 20000101), (20000102, 20000102), (20000103, 20000103), (20000104, 20000104)] hB h
  refine k_skip ?_
  refine f_t ?_
  refine k_seq ?_
  refine k_reg ?_
  refine l_move ?_
  refine l_callX [(5000101, 20000101), (5000102, 20000102), (5000103, 20000103), (5000104, 20000104)] [20000101, 20000102, 20000103, 20000104] h (fun _ => parse_reader_blanks_s5_ok) (fun v4 _ h => ?_)
  refine k_nil ?_
  refine f_t ?_
  refine k_seq ?_
  refine k_seq ?_
  refine k_reg ?_
  refine l_move ?_
  refine l_callX [(7000101, 20000101), (7000102, 20000102), (7000103, 20000103), (7000104, 20000104)] [20000101, 20000102, 20000103, 20000104] h (fun _ => parse_reader_take_s7_ok) (fun v5 _ h => ?_)
  refine l_un ?_
  refine k_nil ?_
  refine f_t ?_
  refine k_if h (fun _ h => ?_) (fun _ h => ?_)
  · refine k_seq ?_
    refine k_reg ?_
    refine l_assign ?_
    refine k_nil ?_
    refine f_t ?_
    refine k_retc ?_
    refine f_tr ?_
    apply k_ret [(20000101, 20000101), (20000102, 20000102), (20000103, 20000103), (20000104, 20000104)] hB h
  refine k_skip ?_
  refine f_t ?_
  refine k_seq ?_
  refine k_reg ?_
  refine l_move ?_
  refine l_callX [(13000101, 20000101), (13000102, 20000102), (13000103, 20000103), (13000104, 20000104)] [20000101, 20000102, 20000103, 20000104] h (fun _ => parse_reader_flush_s13_ok) (fun v6 _ h => ?_)
  refine k_nil ?_
  refine f_t ?_
  refine k_seq ?_
  refine k_reg ?_
  refine l_move ?_
  refine l_move ?_
  refine l_nilCheck ?_
  refine l_fieldAddr ?_
  refine l_load ?_
  refine l_move ?_
  refine l_subp h (fun h => ?_)
  refine l_nilCheck ?_
  refine l_fieldAddr ?_
  refine l_store_box ?_
  refine k_nil ?_
  refine f_t ?_
  refine k_seq ?_
  refine k_reg ?_
  refine l_assign ?_
  refine k_nil ?_
  refine f_t ?_
  refine k_retc ?_
  refine f_shrink 20000103 h (fun v7 ev7 h => ?_)
  refine f_relenc 20000101 2 v7.length ?_
  apply k_ret [(20000101, 20000101), (20000102, 20000102), (20000103, 20000103), (20000104, 20000104)] hB h
theorem parse_reader_means_s23_ok {u1 : Str} {u2 : Str} {u3 : Bool} {u4 : (List TNode)} {u5 : (List TOpen_)} {u6 : (List UInt8)} {r : Str} (h : parse_reader_means_s23 u1 u2 u3 u4 u5 u6 = some r) : XSpec Tryz.prog 172 [.ptr 23000101 0, S u1, .pl (.slice none 0 0)] [(23000101, .box 95 [S u2, .sl 23000102 0 u4.length, .sl 23000103 0 u5.length, .pl (.pointer none), .sl 23000104 0 u6.length, B u3]), (23000102, .row 89 8 0 (F c_TNode u4)), (23000103, .row 168 2 0 (F c_TOpen_ u5)), (23000104, .row 5 1 0 (F cU u6))] (S r) [(23000101, .box 95 [S u2, .sl 23000102 0 u4.length, .sl 23000103 0 u5.length, .pl (.pointer none), .sl 23000104 0 u6.length, B u3]), (23000102, .row 89 8 0 (F c_TNode u4)), (23000103, .row 168 2 0 (F c_TOpen_ u5)), (23000104, .row 5 1 0 (F cU u6))] [] := by
  unfold parse_reader_means_s23 at h
  refine X_of_run Tryz.hU Tryz.func172 (fun _ _ _ hB => ?_)
  refine k_seq ?_
  refine k_reg ?_
  refine l_assign ?_
  refine k_nil ?_
  refine f_t ?_
  refine k_seq ?_
  refine k_seq ?_
  refine k_reg ?_
  refine l_move ?_
  refine l_seq ?_
  refine k_nil ?_
  refine f_t ?_
  refine k_if h (fun _ h => ?_) (fun _ h => ?_)
  · refine k_seq ?_
    refine k_reg ?_
    refine l_assign ?_
    refine k_nil ?_
    refine f_t ?_
    refine k_retc ?_
    refine f_tr ?_
    apply k_ret [(23000101, 23000101), (23000102, 23000102), (23000103, 23000103), (23000104, 23000104)] hB h
  refine k_skip ?_
  refine f_t ?_
  refine k_seq ?_
  refine k_seq ?_
  refine k_reg ?_
  refine l_move ?_
  refine l_nilCheck ?_
  refine l_fieldAddr ?_
  refine l_load ?_
  refine l_len ?_
  refine l_assign ?_
  refine k_nil ?_
  refine f_t ?_
  refine k_block ?_
  refine k_loop (fun y1 => ⟨[(0, .ptr 23000101 0), (1, S u1), (2, .pl (.slice none 0 0)), (7, I y1)], [(23000101, .box 95 [S u2, .sl 23000102 0 u4.length, .sl 23000103 0 u5.length, .pl (.pointer none), .sl 23000104 0 u6.length, B u3]), (23000102, .row 89 8 0 (F c_TNode u4)), (23000103, .row 168 2 0 (F c_TOpen_ u5)), (23000104, .row 5 1 0 (F cU u6))], []⟩) (Sum.elim (fun q10 => (.ret, ⟨[(6, S q10)], [(23000101, .box 95 [S u2, .sl 23000102 0 u4.length, .sl 23000103 0 u5.length, .pl (.pointer none), .sl 23000104 0 u6.length, B u3]), (23000102, .row 89 8 0 (F c_TNode u4)), (23000103, .row 168 2 0 (F c_TOpen_ u5)), (23000104, .row 5 1 0 (F cU u6))], []⟩)) (fun q11 => (.exit 0, ⟨[], [(23000101, .box 95 [S u2, .sl 23000102 0 u4.length, .sl 23000103 0 u5.length, .pl (.pointer none), .sl 23000104 0 u6.length, B u3]), (23000102, .row 89 8 0 (F c_TNode u4)), (23000103, .row 168 2 0 (F c_TOpen_ u5)), (23000104, .row 5 1 0 (F cU u6))], []⟩))) [(23000101, 23000101), (23000102, 23000102), (23000103, 23000103), (23000104, 23000104)] hB h (fun y1 t h => ?_) (fun q h => ?_)
  · unfold parse_reader_means_s23_b1 at h
    refine k_seq ?_
    refine k_seq ?_
    refine k_reg ?_
    refine l_move ?_
    refine l_cmp ?_
    refine k_nil ?_
    refine f_t ?_
    refine k_if h (fun _ h => ?_) (fun _ h => ?_)
    · refine k_skip ?_
      refine f_t ?_
      refine k_seq ?_
      refine k_block ?_
      refine k_seq ?_
      refine k_reg ?_
      refine l_move ?_
      refine l_assign ?_
      refine k_nil ?_
      refine f_t ?_
      refine k_seq ?_
      refine k_seq ?_
      refine k_reg ?_
      refine l_move ?_
      refine l_move ?_
      refine l_nilCheck ?_
      refine l_fieldAddr ?_
      refine l_load ?_
      refine l_len ?_
      refine l_cmp ?_
      refine k_nil ?_
      refine f_t ?_
      refine k_if h (fun _ h => ?_) (fun _ h => ?_)
      · refine k_mix [] (.q 0 (.q 1 (.q 2 (.q 3 (.q 4 (.q 5 (.q 6 (.q 7 (.q 8 (.q 9 (.q 10 (.q 11 (.q 12 (.q 13 (.q 14 (.q 15 (.done))))))))))))))))) hm ?_
        refine gq ?_
        refine n_move ?_
        refine gq ?_
        refine n_nilCheck ?_
        refine gq ?_
        refine n_fieldAddr ?_
        refine gq ?_
        refine n_load ?_
        refine gq ?_
        refine n_move ?_
        refine gq ?_
        refine n_nilCheck ?_
        refine gq ?_
        refine n_fieldAddr ?_
        refine gq ?_
        refine n_load ?_
        refine gq ?_
        refine n_move ?_
        refine gq ?_
        refine n_ato h (fun v2 ev2 h => ?_)
        refine gq ?_
        refine n_fieldAddr ?_
        refine gq ?_
        refine n_ldr0 ev2 ?_
        refine gq ?_
        refine n_ato h (fun v3 ev3 h => ?_)
        refine gq ?_
        refine n_fieldAddr ?_
        refine gq ?_
        refine n_ldr ev3 ?_
        refine gq ?_
        refine n_assign ?_
        refine m_nil ?_
        refine f_t ?_
        refine k_seq ?_
        refine k_reg ?_
        refine l_move ?_
        refine l_len ?_
        refine l_move ?_
        refine k_nil ?_
        refine f_t ?_
        refine k_block ?_
        refine k_loop (fun y4 => ⟨[(0, .ptr 23000101 0), (1, S u1), (2, .pl (.slice none 0 0)), (7, I y1), (45, .vs v3.Decls.length (F c_TDecl v3.Decls)), (46, I (v3.Decls.length : Int)), (47, I y4)], [(23000101, .box 95 [S u2, .sl 23000102 0 u4.length, .sl 23000103 0 u5.length, .pl (.pointer none), .sl 23000104 0 u6.length, B u3]), (23000102, .row 89 8 0 (F c_TNode u4)), (23000103, .row 168 2 0 (F c_TOpen_ u5)), (23000104, .row 5 1 0 (F cU u6))], []⟩) (Sum.elim (fun q6 => (.ret, ⟨[(6, S q6)], [(23000101, .box 95 [S u2, .sl 23000102 0 u4.length, .sl 23000103 0 u5.length, .pl (.pointer none), .sl 23000104 0 u6.length, B u3]), (23000102, .row 89 8 0 (F c_TNode u4)), (23000103, .row 168 2 0 (F c_TOpen_ u5)), (23000104, .row 5 1 0 (F cU u6))], []⟩)) (fun q7 => (.exit 2, ⟨[(0, .ptr 23000101 0), (1, S u1), (2, .pl (.slice none 0 0)), (7, I y1)], [(23000101, .box 95 [S u2, .sl 23000102 0 u4.length, .sl 23000103 0 u5.length, .pl (.pointer none), .sl 23000104 0 u6.length, B u3]), (23000102, .row 89 8 0 (F c_TNode u4)), (23000103, .row 168 2 0 (F c_TOpen_ u5)), (23000104, .row 5 1 0 (F cU u6))], []⟩))) [(23000101, 23000101), (23000102, 23000102), (23000103, 23000103), (23000104, 23000104)] hB h (fun y4 t h => ?_) (fun q h => ?_)
        · unfold parse_reader_means_s23_b2 at h
          refine k_seq ?_
          refine k_reg ?_
          refine l_cmp ?_
          refine k_nil ?_
          refine f_t ?_
          refine k_seq ?_
          refine k_if h (fun _ h => ?_) (fun _ h => ?_)
          · refine k_skip ?_
            refine f_t ?_
            refine k_seq ?_
            refine k_block ?_
            refine k_seq ?_
            refine k_reg ?_
            refine l_at h (fun v5 _ h => ?_)
            refine l_load_agg ?_
            refine l_alloc ?_
            refine l_store_box ?_
            refine k_nil ?_
            refine f_t ?_
            refine k_seq ?_
            refine k_reg ?_
            refine l_fieldAddr ?_
            refine l_load ?_
            refine l_move ?_
            refine l_seq ?_
            refine k_nil ?_
            refine f_t ?_
            refine k_if h (fun _ h => ?_) (fun _ h => ?_)
            · refine k_seq ?_
              refine k_reg ?_
              refine l_fieldAddr ?_
              refine l_load ?_
              refine l_assign ?_
              refine k_nil ?_
              refine f_t ?_
              refine k_retc ?_
              refine f_br ?_
              refine f_tr ?_
              exact k_brk [(23000101, 23000101), (23000102, 23000102), (23000103, 23000103), (23000104, 23000104)] hB h
            refine k_skip ?_
            refine f_b ?_
            refine f_t ?_
            refine k_reg ?_
            refine l_addw ?_
            refine l_move ?_
            refine k_nil ?_
            exact k_next [(23000101, 23000101), (23000102, 23000102), (23000103, 23000103), (23000104, 23000104)] hB h
          refine k_exit ?_
          refine f_te ?_
          exact k_brk [(23000101, 23000101), (23000102, 23000102), (23000103, 23000103), (23000104, 23000104)] hB h
        rcases q with q6 | q7
        · dsimp only [Sum.elim] at h ⊢
          refine f_br ?_
          refine f_br ?_
          refine f_tr ?_
          exact k_brk [(23000101, 23000101), (23000102, 23000102), (23000103, 23000103), (23000104, 23000104)] hB h
        dsimp only [Sum.elim] at h ⊢
        refine f_be ?_
        refine f_b ?_
        refine f_t ?_
        refine k_reg ?_
        refine l_move ?_
        refine l_subw ?_
        refine l_assign ?_
        refine k_nil ?_
        exact k_next [(23000101, 23000101), (23000102, 23000102), (23000103, 23000103), (23000104, 23000104)] hB h
      refine k_skip ?_
      refine f_t ?_
      refine k_seq ?_
      refine k_reg ?_
      refine l_move ?_
      refine l_lenn ?_
      refine l_move ?_
      refine k_nil ?_
      refine f_t ?_
      refine k_block ?_
      refine k_loop (fun y8 => ⟨[(0, .ptr 23000101 0), (1, S u1), (2, .pl (.slice none 0 0)), (7, I y1), (45, .pl (.slice none 0 0)), (46, I 0), (47, I 0)], [(23000101, .box 95 [S u2, .sl 23000102 0 u4.length, .sl 23000103 0 u5.length, .pl (.pointer none), .sl 23000104 0 u6.length, B u3]), (23000102, .row 89 8 0 (F c_TNode u4)), (23000103, .row 168 2 0 (F c_TOpen_ u5)), (23000104, .row 5 1 0 (F cU u6))], []⟩) (fun q9 => (.exit 2, ⟨[(0, .ptr 23000101 0), (1, S u1), (2, .pl (.slice none 0 0)), (7, I y1)], [(23000101, .box 95 [S u2, .sl 23000102 0 u4.length, .sl 23000103 0 u5.length, .pl (.pointer none), .sl 23000104 0 u6.length, B u3]), (23000102, .row 89 8 0 (F c_TNode u4)), (23000103, .row 168 2 0 (F c_TOpen_ u5)), (23000104, .row 5 1 0 (F cU u6))], []⟩)) [(23000101, 23000101), (23000102, 23000102), (23000103, 23000103), (23000104, 23000104)] hB h (fun y8 t h => ?_) (fun q9 h => ?_)
      · unfold parse_reader_means_s23_b3 at h
        refine k_seq ?_
        refine k_reg ?_
        refine l_cmp ?_
        refine k_nil ?_
        refine f_t ?_
        refine k_seq ?_
        refine k_if h (fun _ h => ?_) (fun _ h => ?_)
        · refine k_skip ?_
          refine f_t ?_
          refine k_seq ?_
          refine k_block ?_
          refine k_seq ?_
          refine k_reg ?_
          cases h
        refine k_exit ?_
        refine f_te ?_
        exact k_brk [(23000101, 23000101), (23000102, 23000102), (23000103, 23000103), (23000104, 23000104)] hB h
      refine f_be ?_
      refine f_b ?_
      refine f_t ?_
      refine k_reg ?_
      refine l_move ?_
      refine l_subw ?_
      refine l_assign ?_
      refine k_nil ?_
      exact k_next [(23000101, 23000101), (23000102, 23000102), (23000103, 23000103), (23000104, 23000104)] hB h
    refine k_exit ?_
    refine f_te ?_
    exact k_brk [(23000101, 23000101), (23000102, 23000102), (23000103, 23000103), (23000104, 23000104)] hB h
  rcases q with q10 | q11
  · dsimp only [Sum.elim] at h ⊢
    refine f_br ?_
    refine f_tr ?_
    apply k_ret [(23000101, 23000101), (23000102, 23000102), (23000103, 23000103), (23000104, 23000104)] hB h
  dsimp only [Sum.elim] at h ⊢
  refine f_be ?_
  refine f_t ?_
  refine k_seq ?_
  refine k_reg ?_
  refine l_assign ?_
  refine k_nil ?_
  refine f_t ?_
  refine k_retc ?_
  apply k_ret [(23000101, 23000101), (23000102, 23000102), (23000103, 23000103), (23000104, 23000104)] hB h
theorem parse_reader_enter_s22_ok {u1 : Int} {u2 : Int} {u3 : Str} {u4 : Str} {u5 : Str} {u6 : Str} {u7 : Str} {u8 : Bool} {u9 : Str} {u10 : Bool} {u11 : (List TNode)} {u12 : (List TOpen_)} {u13 : (List UInt8)} {r : (List TNode) × (List TOpen_)} (h : parse_reader_enter_s22 u1 u2 u3 u4 u5 u6 u7 u8 u9 u10 u11 u12 u13 = some r) : XSpec Tryz.prog 130 [.ptr 22000101 0, .agg [I u1, I u2, S u3, S u4, S u5, S u6, .pl (.slice none 0 0), .pl (.slice none 0 0)], S u7, B u8] [(22000101, .box 95 [S u9, .sl 22000102 0 u11.length, .sl 22000103 0 u12.length, .pl (.pointer none), .sl 22000104 0 u13.length, B u10]), (22000102, .row 89 8 0 (F c_TNode u11)), (22000103, .row 168 2 0 (F c_TOpen_ u12)), (22000104, .row 5 1 0 (F cU u13))] (.tup []) [(22000101, .box 95 [S u9, .sl 22000102 0 r.1.length, .sl 22000103 0 r.2.length, .pl (.pointer none), .sl 22000104 0 u13.length, B u10]), (22000102, .row 89 8 0 (F c_TNode r.1)), (22000103, .row 168 2 0 (F c_TOpen_ r.2)), (22000104, .row 5 1 0 (F cU u13))] [22000102, 22000103] := by
  unfold parse_reader_enter_s22 at h
  refine X_of_run Tryz.hU Tryz.func130 (fun _ _ _ hB => ?_)
  refine k_seq ?_
  refine k_reg ?_
  refine l_box ?_
  refine k_nil ?_
  refine f_t ?_
  refine k_seq ?_
  refine k_reg ?_
  refine l_move ?_
  refine l_fieldAddr ?_
  refine l_load ?_
  refine l_fieldAddr ?_
  refine l_load ?_
  refine l_callX [(23000101, 22000101), (23000102, 22000102), (23000103, 22000103), (23000104, 22000104)] [22000101, 22000102, 22000103, 22000104] h (fun _ => parse_reader_means_s23_ok) (fun v1 _ h => ?_)
  refine l_fieldAddr ?_
  refine l_store_box ?_
  refine k_nil ?_
  refine f_t ?_
  refine k_seq ?_
  refine k_seq ?_
  refine k_reg ?_
  refine l_fieldAddr ?_
  refine l_load ?_
  refine l_lenn ?_
  refine l_move ?_
  refine k_nil ?_
  refine f_t ?_
  refine k_block ?_
  refine k_loop (fun y2 => ⟨[(0, .ptr 22000101 0), (2, S u7), (3, B u8), (5, .ptr 1005 0), (18, .pl (.slice none 0 0)), (19, I 0), (20, I 0)], [(22000101, .box 95 [S u9, .sl 22000102 0 u11.length, .sl 22000103 0 u12.length, .pl (.pointer none), .sl 22000104 0 u13.length, B u10]), (22000102, .row 89 8 0 (F c_TNode u11)), (22000103, .row 168 2 0 (F c_TOpen_ u12)), (22000104, .row 5 1 0 (F cU u13)), (1005, .box 89 [I u1, I u2, S u3, S u4, S v1, S u6, .pl (.slice none 0 0), .pl (.slice none 0 0)])], []⟩) (fun q3 => (.exit 0, ⟨[(0, .ptr 22000101 0), (2, S u7), (3, B u8), (5, .ptr 1005 0)], [(22000101, .box 95 [S u9, .sl 22000102 0 u11.length, .sl 22000103 0 u12.length, .pl (.pointer none), .sl 22000104 0 u13.length, B u10]), (22000102, .row 89 8 0 (F c_TNode u11)), (22000103, .row 168 2 0 (F c_TOpen_ u12)), (22000104, .row 5 1 0 (F cU u13)), (1005, .box 89 [I u1, I u2, S u3, S u4, S v1, S u6, .pl (.slice none 0 0), .pl (.slice none 0 0)])], []⟩)) [(22000101, 22000101), (22000102, 22000102), (22000103, 22000103), (22000104, 22000104), (1005, 1005)] hB h (fun y2 t h => ?_) (fun q3 h => ?_)
  · unfold parse_reader_enter_s22_b1 at h
    refine k_seq ?_
    refine k_reg ?_
    refine l_cmp ?_
    refine k_nil ?_
    refine f_t ?_
    refine k_seq ?_
    refine k_if h (fun _ h => ?_) (fun _ h => ?_)
    · refine k_skip ?_
      refine f_t ?_
      refine k_seq ?_
      refine k_block ?_
      refine k_seq ?_
      refine k_reg ?_
      refine l_move ?_
      cases h
    refine k_exit ?_
    refine f_te ?_
    exact k_brk [(22000101, 22000101), (22000102, 22000102), (22000103, 22000103), (22000104, 22000104), (1005, 1005)] hB h
  refine f_be ?_
  refine f_t ?_
  refine k_seq ?_
  refine k_reg ?_
  refine l_move ?_
  refine l_load_agg ?_
  refine l_callX [(12000101, 22000101), (12000102, 22000102), (12000103, 22000103), (12000104, 22000104)] [22000101, 22000102, 22000103, 22000104] h (fun _ => parse_reader_put_s12_ok) (fun v4 _ h => ?_)
  refine k_nil ?_
  refine f_t ?_
  refine k_seq ?_
  refine k_reg ?_
  refine l_move ?_
  refine l_un ?_
  refine k_nil ?_
  refine f_t ?_
  refine k_if h (fun _ h => ?_) (fun _ h => ?_)
  · refine k_mix [14, 17] (.q 1 (.q 2 (.q 3 (.q 4 (.q 5 (.q 6 (.q 7 (.q 8 (.q 9 (.q 10 (.q 11 (.q 12 (.s 0 (.e 13 (.e 14 (.q 15 (.q 16 (.e 17 (.done))))))))))))))))))) hm ?_
    refine gq ?_
    refine n_move ?_
    refine gq ?_
    refine n_nilCheck ?_
    refine gq ?_
    refine n_fieldAddr ?_
    refine gq ?_
    refine n_load ?_
    refine gq ?_
    refine n_move ?_
    refine gq ?_
    refine n_nilCheck ?_
    refine gq ?_
    refine n_fieldAddr ?_
    refine gq ?_
    refine n_load ?_
    refine gq ?_
    refine n_len ?_
    refine gq ?_
    refine n_subw ?_
    refine gq ?_
    refine n_move ?_
    refine gq ?_
    refine n_build ?_
    refine gs ?_
    refine x_move ?_
    refine ge ?_
    refine n_lit (e := c_TOpen_) [(TOpen_.mk (w64 ((v4.length : Int) - 1)) u7)] ?_
    refine ge ?_
    refine n_appo h (fun v5 _ h => ?_)
    refine gq ?_
    refine n_nilCheck ?_
    refine gq ?_
    refine n_fieldAddr ?_
    refine ge ?_
    refine n_store_box ?_
    refine m_nil ?_
    apply k_ret [(22000101, 22000101), (22000102, 22000102), (22000103, 22000103), (22000104, 22000104)] hB h
  refine k_skip ?_
  apply k_ret [(22000101, 22000101), (22000102, 22000102), (22000103, 22000103), (22000104, 22000104)] hB h
theorem parse_reader_start_s21_ok {u1 : Str} {u2 : Bool} {u3 : (List TNode)} {u4 : (List TOpen_)} {u5 : (List UInt8)} {r : Bool × Str × (List TNode) × (List TOpen_)} (h : parse_reader_start_s21 u1 u2 u3 u4 u5 = some r) : XSpec Tryz.prog 89 [.ptr 21000101 0] [(21000101, .box 95 [S u1, .sl 21000102 0 u3.length, .sl 21000103 0 u4.length, .pl (.pointer none), .sl 21000104 0 u5.length, B u2]), (21000102, .row 89 8 0 (F c_TNode u3)), (21000103, .row 168 2 0 (F c_TOpen_ u4)), (21000104, .row 5 1 0 (F cU u5))] (B r.1) [(21000101, .box 95 [S r.2.1, .sl 21000102 0 r.2.2.1.length, .sl 21000103 0 r.2.2.2.length, .pl (.pointer none), .sl 21000104 0 u5.length, B u2]), (21000102, .row 89 8 0 (F c_TNode r.2.2.1)), (21000103, .row 168 2 0 (F c_TOpen_ r.2.2.2)), (21000104, .row 5 1 0 (F cU u5))] [21000102, 21000103] := by
  unfold parse_reader_start_s21 at h
  refine X_of_run Tryz.hU Tryz.func89 (fun _ _ _ hB => ?_)
  refine k_seq ?_
  refine k_reg ?_
  refine l_assign ?_
  refine k_nil ?_
  refine f_t ?_
  refine k_seq ?_
  refine k_reg ?_
  refine l_move ?_
  refine l_callX [(19000101, 21000101), (19000102, 21000102), (19000103, 21000103), (19000104, 21000104)] [21000101, 21000102, 21000103, 21000104] h (fun _ => parse_reader_word_s19_ok) (fun v1 _ h => ?_)
  refine l_assign ?_
  refine k_nil ?_
  refine f_t ?_
  refine k_seq ?_
  refine k_reg ?_
  refine l_move ?_
  refine l_call h (fun _ => name_Split_ok) (fun v2 _ h => ?_)
  refine l_move ?_
  refine l_extract ?_
  refine l_extract ?_
  refine l_extract ?_
  refine l_assign ?_
  refine l_assign ?_
  refine l_assign ?_
  refine k_nil ?_
  refine f_t ?_
  refine k_seq ?_
  refine k_seq ?_
  refine k_reg ?_
  refine l_move ?_
  refine l_un ?_
  refine k_nil ?_
  refine f_t ?_
  refine k_if h (fun _ h => ?_) (fun _ h => ?_)
  · refine k_seq ?_
    refine k_reg ?_
    refine l_assign ?_
    refine k_nil ?_
    refine f_t ?_
    refine k_retc ?_
    refine f_tr ?_
    apply k_ret [(21000101, 21000101), (21000102, 21000102), (21000103, 21000103), (21000104, 21000104)] hB h
  refine k_skip ?_
  refine f_t ?_
  refine k_seq ?_
  refine k_reg ?_
  refine l_move ?_
  refine l_move ?_
  refine l_build ?_
  refine l_alloc ?_
  refine l_store_box ?_
  refine k_nil ?_
  refine f_t ?_
  refine k_block ?_
  refine k_loop (fun y3 => ⟨[(0, .ptr 21000101 0), (3, S v1.1), (7, .ptr 1007 0)], [(21000101, .box 95 [S v1.2, .sl 21000102 0 u3.length, .sl 21000103 0 u4.length, .pl (.pointer none), .sl 21000104 0 u5.length, B u2]), (21000102, .row 89 8 0 (F c_TNode u3)), (21000103, .row 168 2 0 (F c_TOpen_ u4)), (21000104, .row 5 1 0 (F cU u5)), (1007, .box 89 [I 1, I 0, S v2.1, S v2.2.1, S [], S [], .pl (.slice none 0 0), .pl (.slice none 0 0)])], []⟩) (fun q10 => (.ret, ⟨[(2, B q10.1)], [(21000101, .box 95 [S q10.2.1, .sl 21000102 0 q10.2.2.1.length, .sl 21000103 0 q10.2.2.2.length, .pl (.pointer none), .sl 21000104 0 u5.length, B u2]), (21000102, .row 89 8 0 (F c_TNode q10.2.2.1)), (21000103, .row 168 2 0 (F c_TOpen_ q10.2.2.2)), (21000104, .row 5 1 0 (F cU u5))], [21000102, 21000103]⟩)) [(21000101, 21000101), (21000102, 21000102), (21000103, 21000103), (21000104, 21000104), (1007, 1007)] hB h (fun y3 t h => ?_) (fun q10 h => ?_)
  · unfold parse_reader_start_s21_b1 at h
    refine k_block ?_
    refine k_seq ?_
    refine k_reg ?_
    refine l_move ?_
    refine l_callX [(5000101, 21000101), (5000102, 21000102), (5000103, 21000103), (5000104, 21000104)] [21000101, 21000102, 21000103, 21000104] h (fun _ => parse_reader_blanks_s5_ok) (fun v4 _ h => ?_)
    refine l_assign ?_
    refine k_nil ?_
    refine f_t ?_
    refine k_seq ?_
    refine k_reg ?_
    refine l_move ?_
    refine l_callX [(7000101, 21000101), (7000102, 21000102), (7000103, 21000103), (7000104, 21000104)] [21000101, 21000102, 21000103, 21000104] h (fun _ => parse_reader_take_s7_ok) (fun v5 _ h => ?_)
    refine l_assign ?_
    refine l_assign ?_
    refine k_nil ?_
    refine f_t ?_
    refine k_seq ?_
    refine k_seq ?_
    refine k_reg ?_
    refine l_move ?_
    refine l_un ?_
    refine k_nil ?_
    refine f_t ?_
    refine k_if h (fun _ h => ?_) (fun _ h => ?_)
    · refine k_reg ?_
      refine l_move ?_
      refine l_callX [(7000101, 21000101), (7000102, 21000102), (7000103, 21000103), (7000104, 21000104)] [21000101, 21000102, 21000103, 21000104] h (fun _ => parse_reader_take_s7_ok) (fun v6 _ h => ?_)
      refine l_assign ?_
      refine k_nil ?_
      refine f_t ?_
      refine k_seq ?_
      refine k_seq ?_
      refine k_reg ?_
      refine l_move ?_
      refine l_move ?_
      refine l_split h (fun _ h => ?_) (fun _ h => ?_)
      · refine l_off ?_
        refine l_pick_true ?_
        refine k_nil ?_
        refine f_t ?_
        refine k_t ?_
        refine k_seq ?_
        refine k_reg ?_
        refine l_move ?_
        refine l_load_agg ?_
        refine l_move ?_
        refine l_move ?_
        refine l_callX [(22000101, 21000101), (22000102, 21000102), (22000103, 21000103), (22000104, 21000104)] [21000101, 21000102, 21000103, 21000104] h (fun _ => parse_reader_enter_s22_ok) (fun v7 _ h => ?_)
        refine k_nil ?_
        refine f_t ?_
        refine k_seq ?_
        refine k_reg ?_
        refine l_assign ?_
        refine k_nil ?_
        refine f_t ?_
        refine k_retc ?_
        refine f_tr ?_
        refine f_br ?_
        exact k_brk [(21000101, 21000101), (21000102, 21000102), (21000103, 21000103), (21000104, 21000104)] hB h
      refine l_on ?_
      refine l_move ?_
      refine l_pick_false ?_
      refine k_nil ?_
      refine f_t ?_
      refine k_if h (fun _ h => ?_) (fun _ h => ?_)
      · refine k_seq ?_
        refine k_reg ?_
        refine l_move ?_
        refine l_load_agg ?_
        refine l_move ?_
        refine l_move ?_
        refine l_callX [(22000101, 21000101), (22000102, 21000102), (22000103, 21000103), (22000104, 21000104)] [21000101, 21000102, 21000103, 21000104] h (fun _ => parse_reader_enter_s22_ok) (fun v8 _ h => ?_)
        refine k_nil ?_
        refine f_t ?_
        refine k_seq ?_
        refine k_reg ?_
        refine l_assign ?_
        refine k_nil ?_
        refine f_t ?_
        refine k_retc ?_
        refine f_tr ?_
        refine f_br ?_
        exact k_brk [(21000101, 21000101), (21000102, 21000102), (21000103, 21000103), (21000104, 21000104)] hB h
      refine k_skip ?_
      refine f_t ?_
      refine k_seq ?_
      refine k_reg ?_
      refine l_move ?_
      refine l_un ?_
      refine l_move ?_
      refine l_split h (fun _ h => ?_) (fun _ h => ?_)
      · refine l_off ?_
        refine l_off ?_
        refine l_off ?_
        refine l_pick_true ?_
        refine k_nil ?_
        refine f_t ?_
        refine k_t ?_
        refine k_seq ?_
        refine k_reg ?_
        refine l_assign ?_
        refine k_nil ?_
        refine f_t ?_
        refine k_retc ?_
        refine f_br ?_
        exact k_brk [(21000101, 21000101), (21000102, 21000102), (21000103, 21000103), (21000104, 21000104)] hB h
      refine l_on ?_
      refine l_move ?_
      refine l_on ?_
      cases h
    refine k_skip ?_
    refine f_t ?_
    refine k_seq ?_
    refine k_seq ?_
    refine k_reg ?_
    refine l_move ?_
    refine l_move ?_
    refine l_split h (fun _ h => ?_) (fun _ h => ?_)
    · refine l_off ?_
      refine l_pick_true ?_
      refine k_nil ?_
      refine f_t ?_
      refine k_t ?_
      refine k_seq ?_
      refine k_reg ?_
      refine l_move ?_
      refine l_load_agg ?_
      refine l_move ?_
      refine l_move ?_
      refine l_callX [(22000101, 21000101), (22000102, 21000102), (22000103, 21000103), (22000104, 21000104)] [21000101, 21000102, 21000103, 21000104] h (fun _ => parse_reader_enter_s22_ok) (fun v9 _ h => ?_)
      refine k_nil ?_
      refine f_t ?_
      refine k_seq ?_
      refine k_reg ?_
      refine l_assign ?_
      refine k_nil ?_
      refine f_t ?_
      refine k_retc ?_
      refine f_tr ?_
      refine f_br ?_
      exact k_brk [(21000101, 21000101), (21000102, 21000102), (21000103, 21000103), (21000104, 21000104)] hB h
    refine l_on ?_
    refine l_move ?_
    refine l_pick_false ?_
    refine k_nil ?_
    refine f_t ?_
    refine k_f ?_
    refine k_skip ?_
    refine f_t ?_
    refine k_seq ?_
    refine k_reg ?_
    refine l_move ?_
    refine l_un ?_
    refine l_move ?_
    refine l_split h (fun _ h => ?_) (fun _ h => ?_)
    · refine l_off ?_
      refine l_off ?_
      refine l_off ?_
      refine l_pick_true ?_
      refine k_nil ?_
      refine f_t ?_
      refine k_t ?_
      refine k_seq ?_
      refine k_reg ?_
      refine l_assign ?_
      refine k_nil ?_
      refine f_t ?_
      refine k_retc ?_
      refine f_br ?_
      exact k_brk [(21000101, 21000101), (21000102, 21000102), (21000103, 21000103), (21000104, 21000104)] hB h
    refine l_on ?_
    refine l_move ?_
    refine l_on ?_
    cases h
  refine f_br ?_
  apply k_ret [(21000101, 21000101), (21000102, 21000102), (21000103, 21000103), (21000104, 21000104)] hB h
theorem parse_reader_between_s25_ok {u1 : Str} {u2 : Bool} {u3 : (List TNode)} {u4 : (List TOpen_)} {u5 : (List UInt8)} {r : Bool × Str} (h : parse_reader_between_s25 u1 u2 u3 u4 u5 = some r) : XSpec Tryz.prog 90 [.ptr 25000101 0] [(25000101, .box 95 [S u1, .sl 25000102 0 u3.length, .sl 25000103 0 u4.length, .pl (.pointer none), .sl 25000104 0 u5.length, B u2]), (25000102, .row 89 8 0 (F c_TNode u3)), (25000103, .row 168 2 0 (F c_TOpen_ u4)), (25000104, .row 5 1 0 (F cU u5))] (B r.1) [(25000101, .box 95 [S r.2, .sl 25000102 0 u3.length, .sl 25000103 0 u4.length, .pl (.pointer none), .sl 25000104 0 u5.length, B u2]), (25000102, .row 89 8 0 (F c_TNode u3)), (25000103, .row 168 2 0 (F c_TOpen_ u4)), (25000104, .row 5 1 0 (F cU u5))] [] := by
  unfold parse_reader_between_s25 at h
  refine X_of_run Tryz.hU Tryz.func90 (fun _ _ _ hB => ?_)
  refine k_seq ?_
  refine k_reg ?_
  refine l_assign ?_
  refine k_nil ?_
  refine f_t ?_
  refine k_seq ?_
  refine k_reg ?_
  refine l_move ?_
  refine l_nilCheck ?_
  refine l_fieldAddr ?_
  refine l_load ?_
  refine l_call h (fun _ => strings_IndexByte_ok) (fun v1 _ h => ?_)
  refine l_assign ?_
  refine k_nil ?_
  refine f_t ?_
  refine k_seq ?_
  refine k_seq ?_
  refine k_reg ?_
  refine l_move ?_
  refine l_cmp ?_
  refine k_nil ?_
  refine f_t ?_
  refine k_if h (fun _ h => ?_) (fun _ h => ?_)
  · refine k_reg ?_
    refine l_move ?_
    refine l_nilCheck ?_
    refine l_fieldAddr ?_
    refine l_load ?_
    refine l_lens ?_
    refine l_assign ?_
    refine k_nil ?_
    refine f_t ?_
    refine k_seq ?_
    refine k_reg ?_
    refine l_move ?_
    refine l_nilCheck ?_
    refine l_fieldAddr ?_
    refine l_load ?_
    refine l_move ?_
    refine l_subs h (fun v2 _ h => ?_)
    refine l_assign ?_
    refine k_nil ?_
    refine f_t ?_
    refine k_seq ?_
    refine k_reg ?_
    refine l_move ?_
    refine l_move ?_
    refine l_nilCheck ?_
    refine l_fieldAddr ?_
    refine l_load ?_
    refine l_move ?_
    refine l_subs h (fun v3 _ h => ?_)
    refine l_nilCheck ?_
    refine l_fieldAddr ?_
    refine l_store_box ?_
    refine k_nil ?_
    refine f_t ?_
    refine k_seq ?_
    refine k_seq ?_
    refine k_reg ?_
    refine l_move ?_
    refine l_nilCheck ?_
    refine l_fieldAddr ?_
    refine l_load ?_
    refine l_len ?_
    refine l_cmp ?_
    refine k_nil ?_
    refine f_t ?_
    refine k_if h (fun _ h => ?_) (fun _ h => ?_)
    · refine k_seq ?_
      refine k_reg ?_
      refine l_move ?_
      refine l_call h (fun _ => name_Trim_ok) (fun v4 _ h => ?_)
      refine l_seq ?_
      refine l_assign ?_
      refine k_nil ?_
      refine f_t ?_
      refine k_retc ?_
      refine f_tr ?_
      apply k_ret [(25000101, 25000101), (25000102, 25000102), (25000103, 25000103), (25000104, 25000104)] hB h
    refine k_skip ?_
    refine f_t ?_
    refine k_seq ?_
    refine k_reg ?_
    refine l_move ?_
    cases h
  refine k_skip ?_
  refine f_t ?_
  refine k_seq ?_
  refine k_reg ?_
  refine l_move ?_
  refine l_nilCheck ?_
  refine l_fieldAddr ?_
  refine l_load ?_
  refine l_move ?_
  refine l_subs h (fun v6 _ h => ?_)
  refine l_assign ?_
  refine k_nil ?_
  refine f_t ?_
  refine k_seq ?_
  refine k_reg ?_
  refine l_move ?_
  refine l_move ?_
  refine l_nilCheck ?_
  refine l_fieldAddr ?_
  refine l_load ?_
  refine l_move ?_
  refine l_subs h (fun v7 _ h => ?_)
  refine l_nilCheck ?_
  refine l_fieldAddr ?_
  refine l_store_box ?_
  refine k_nil ?_
  refine f_t ?_
  refine k_seq ?_
  refine k_seq ?_
  refine k_reg ?_
  refine l_move ?_
  refine l_nilCheck ?_
  refine l_fieldAddr ?_
  refine l_load ?_
  refine l_len ?_
  refine l_cmp ?_
  refine k_nil ?_
  refine f_t ?_
  refine k_if h (fun _ h => ?_) (fun _ h => ?_)
  · refine k_seq ?_
    refine k_reg ?_
    refine l_move ?_
    refine l_call h (fun _ => name_Trim_ok) (fun v8 _ h => ?_)
    refine l_seq ?_
    refine l_assign ?_
    refine k_nil ?_
    refine f_t ?_
    refine k_retc ?_
    refine f_tr ?_
    apply k_ret [(25000101, 25000101), (25000102, 25000102), (25000103, 25000103), (25000104, 25000104)] hB h
  refine k_skip ?_
  refine f_t ?_
  refine k_seq ?_
  refine k_reg ?_
  refine l_move ?_
  cases h
theorem parse_reader_step_s11_ok {u1 : Str} {u2 : Bool} {u3 : (List TNode)} {u4 : (List TOpen_)} {u5 : (List UInt8)} {r : Bool × Str × (List TNode) × (List TOpen_)} (h : parse_reader_step_s11 u1 u2 u3 u4 u5 = some r) : XSpec Tryz.prog 53 [.ptr 11000101 0] [(11000101, .box 95 [S u1, .sl 11000102 0 u3.length, .sl 11000103 0 u4.length, .pl (.pointer none), .sl 11000104 0 u5.length, B u2]), (11000102, .row 89 8 0 (F c_TNode u3)), (11000103, .row 168 2 0 (F c_TOpen_ u4)), (11000104, .row 5 1 0 (F cU u5))] (B r.1) [(11000101, .box 95 [S r.2.1, .sl 11000102 0 r.2.2.1.length, .sl 11000103 0 r.2.2.2.length, .pl (.pointer none), .sl 11000104 0 u5.length, B u2]), (11000102, .row 89 8 0 (F c_TNode r.2.2.1)), (11000103, .row 168 2 0 (F c_TOpen_ r.2.2.2)), (11000104, .row 5 1 0 (F cU u5))] [11000102, 11000103] := by
  unfold parse_reader_step_s11 at h
  refine X_of_run Tryz.hU Tryz.func53 (fun _ _ _ hB => ?_)
  refine k_seq ?_
  refine k_reg ?_
  refine l_assign ?_
  refine k_nil ?_
  refine f_t ?_
  refine k_seq ?_
  refine k_block ?_
  refine k_seq ?_
  refine k_reg ?_
  refine l_move ?_
  refine l_callX [(7000101, 11000101), (7000102, 11000102), (7000103, 11000103), (7000104, 11000104)] [11000101, 11000102, 11000103, 11000104] h (fun _ => parse_reader_take_s7_ok) (fun v1 _ h => ?_)
  refine l_assign ?_
  refine k_nil ?_
  refine f_t ?_
  refine k_if h (fun _ h => ?_) (fun _ h => ?_)
  · refine k_seq ?_
    refine k_reg ?_
    refine l_move ?_
    refine l_callX [(9000101, 11000101), (9000102, 11000102), (9000103, 11000103), (9000104, 11000104)] [11000101, 11000102, 11000103, 11000104] h (fun _ => parse_reader_until_s9_ok) (fun v2 _ h => ?_)
    refine l_move ?_
    refine l_extract ?_
    refine l_extract ?_
    refine l_assign ?_
    refine l_assign ?_
    refine k_nil ?_
    refine f_t ?_
    refine k_seq ?_
    refine k_reg ?_
    refine l_move ?_
    refine l_move ?_
    refine l_build ?_
    refine l_callX [(12000101, 11000101), (12000102, 11000102), (12000103, 11000103), (12000104, 11000104)] [11000101, 11000102, 11000103, 11000104] h (fun _ => parse_reader_put_s12_ok) (fun v3 _ h => ?_)
    refine k_nil ?_
    refine f_t ?_
    refine k_seq ?_
    refine k_reg ?_
    refine l_move ?_
    refine l_assign ?_
    refine k_nil ?_
    refine f_t ?_
    refine k_retc ?_
    refine f_br ?_
    refine f_tr ?_
    apply k_ret [(11000101, 11000101), (11000102, 11000102), (11000103, 11000103), (11000104, 11000104)] hB h
  refine k_seq ?_
  refine k_cut (fun q5 => (.normal, ⟨[(0, .ptr 11000101 0), (20, B q5.1)], [(11000101, .box 95 [S q5.2, .sl 11000102 0 u3.length, .sl 11000103 0 u4.length, .pl (.pointer none), .sl 11000104 0 u5.length, B u2]), (11000102, .row 89 8 0 (F c_TNode u3)), (11000103, .row 168 2 0 (F c_TOpen_ u4)), (11000104, .row 5 1 0 (F cU u5))], []⟩)) h (fun t h => ?_) (fun q5 h => ?_)
  · refine k_reg ?_
    refine l_move ?_
    refine l_nilCheck ?_
    refine l_fieldAddr ?_
    refine l_load ?_
    refine l_len ?_
    refine l_cmp ?_
    refine l_move ?_
    refine l_split h (fun _ h => ?_) (fun _ h => ?_)
    · refine l_on ?_
      refine l_move ?_
      refine l_on ?_
      refine l_callX [(7000101, 11000101), (7000102, 11000102), (7000103, 11000103), (7000104, 11000104)] [11000101, 11000102, 11000103, 11000104] h (fun _ => parse_reader_take_s7_ok) (fun v4 _ h => ?_)
      refine l_pick_true ?_
      refine l_assign ?_
      refine k_nil ?_
      exact k_out [(11000101, 11000101), (11000102, 11000102), (11000103, 11000103), (11000104, 11000104)] hB h
    refine l_off ?_
    refine l_off ?_
    refine l_pick_false ?_
    refine l_assign ?_
    refine k_nil ?_
    exact k_out [(11000101, 11000101), (11000102, 11000102), (11000103, 11000103), (11000104, 11000104)] hB h
  refine f_t ?_
  refine k_if h (fun _ h => ?_) (fun _ h => ?_)
  · refine k_seq ?_
    refine k_reg ?_
    refine l_move ?_
    cases h
  refine k_seq ?_
  refine k_reg ?_
  refine l_move ?_
  refine l_callX [(7000101, 11000101), (7000102, 11000102), (7000103, 11000103), (7000104, 11000104)] [11000101, 11000102, 11000103, 11000104] h (fun _ => parse_reader_take_s7_ok) (fun v7 _ h => ?_)
  refine l_assign ?_
  refine k_nil ?_
  refine f_t ?_
  refine k_if h (fun _ h => ?_) (fun _ h => ?_)
  · refine k_seq ?_
    refine k_reg ?_
    refine l_move ?_
    refine l_callX [(18000101, 11000101), (18000102, 11000102), (18000103, 11000103), (18000104, 11000104)] [11000101, 11000102, 11000103, 11000104] h (fun _ => parse_reader_instruction_s18_ok) (fun v8 _ h => ?_)
    refine l_assign ?_
    refine k_nil ?_
    refine f_t ?_
    refine k_retc ?_
    refine f_br ?_
    refine f_tr ?_
    apply k_ret [(11000101, 11000101), (11000102, 11000102), (11000103, 11000103), (11000104, 11000104)] hB h
  refine k_seq ?_
  refine k_reg ?_
  refine l_move ?_
  refine l_callX [(7000101, 11000101), (7000102, 11000102), (7000103, 11000103), (7000104, 11000104)] [11000101, 11000102, 11000103, 11000104] h (fun _ => parse_reader_take_s7_ok) (fun v9 _ h => ?_)
  refine l_assign ?_
  refine k_nil ?_
  refine f_t ?_
  refine k_if h (fun _ h => ?_) (fun _ h => ?_)
  · refine k_seq ?_
    refine k_reg ?_
    refine l_move ?_
    refine l_callX [(20000101, 11000101), (20000102, 11000102), (20000103, 11000103), (20000104, 11000104)] [11000101, 11000102, 11000103, 11000104] h (fun _ => parse_reader_finish_s20_ok) (fun v10 _ h => ?_)
    refine l_assign ?_
    refine k_nil ?_
    refine f_t ?_
    refine k_retc ?_
    refine f_br ?_
    refine f_tr ?_
    apply k_ret [(11000101, 11000101), (11000102, 11000102), (11000103, 11000103), (11000104, 11000104)] hB h
  refine k_seq ?_
  refine k_reg ?_
  refine l_move ?_
  refine l_callX [(7000101, 11000101), (7000102, 11000102), (7000103, 11000103), (7000104, 11000104)] [11000101, 11000102, 11000103, 11000104] h (fun _ => parse_reader_take_s7_ok) (fun v11 _ h => ?_)
  refine l_assign ?_
  refine k_nil ?_
  refine f_t ?_
  refine k_if h (fun _ h => ?_) (fun _ h => ?_)
  · refine k_seq ?_
    refine k_reg ?_
    refine l_move ?_
    refine l_callX [(21000101, 11000101), (21000102, 11000102), (21000103, 11000103), (21000104, 11000104)] [11000101, 11000102, 11000103, 11000104] h (fun _ => parse_reader_start_s21_ok) (fun v12 _ h => ?_)
    refine l_assign ?_
    refine k_nil ?_
    refine f_t ?_
    refine k_retc ?_
    refine f_br ?_
    refine f_tr ?_
    apply k_ret [(11000101, 11000101), (11000102, 11000102), (11000103, 11000103), (11000104, 11000104)] hB h
  refine k_skip ?_
  refine f_b ?_
  refine f_t ?_
  refine k_seq ?_
  refine k_reg ?_
  refine l_move ?_
  refine l_callX [(25000101, 11000101), (25000102, 11000102), (25000103, 11000103), (25000104, 11000104)] [11000101, 11000102, 11000103, 11000104] h (fun _ => parse_reader_between_s25_ok) (fun v13 _ h => ?_)
  refine l_assign ?_
  refine k_nil ?_
  refine f_t ?_
  refine k_retc ?_
  apply k_ret [(11000101, 11000101), (11000102, 11000102), (11000103, 11000103), (11000104, 11000104)] hB h
theorem parse_Parse_ok {b : (List UInt8)} {r : (Option TDoc) × Int} (h : parse_Parse b = some r) : XSpec Tryz.prog 25 [.vs b.length (F cU b)] [] (.tup [oP c_TDoc r.1, I r.2]) [] [] := by
  unfold parse_Parse at h
  refine X_of_run Tryz.hU Tryz.func25 (fun _ _ _ hB => ?_)
  refine k_seq ?_
  refine k_reg ?_
  refine l_assign ?_
  refine l_assign ?_
  refine k_nil ?_
  refine f_t ?_
  refine k_seq ?_
  refine k_block ?_
  refine k_seq ?_
  refine k_reg ?_
  refine l_move ?_
  refine l_len ?_
  refine l_cmp ?_
  refine l_assign ?_
  refine k_nil ?_
  refine f_t ?_
  refine k_if h (fun _ h => ?_) (fun _ h => ?_)
  · refine k_seq ?_
    refine k_reg ?_
    refine l_assign ?_
    refine l_assign ?_
    refine k_nil ?_
    refine f_t ?_
    refine k_retc ?_
    refine f_br ?_
    refine f_tr ?_
    apply k_retN [] hB h
  refine k_seq ?_
  refine k_reg ?_
  refine l_move ?_
  refine l_call h (fun _ => utf_Text_ok) (fun v1 _ h => ?_)
  refine l_un ?_
  refine l_assign ?_
  refine k_nil ?_
  refine f_t ?_
  refine k_if h (fun _ h => ?_) (fun _ h => ?_)
  · refine k_seq ?_
    refine k_reg ?_
    refine l_assign ?_
    refine l_assign ?_
    refine k_nil ?_
    refine f_t ?_
    refine k_retc ?_
    refine f_br ?_
    refine f_tr ?_
    apply k_retN [] hB h
  refine k_skip ?_
  refine f_b ?_
  refine f_t ?_
  refine k_seq ?_
  refine k_reg ?_
  refine l_move ?_
  refine l_bstr ?_
  refine l_call h (fun _ => chars_Lines_ok) (fun v2 _ h => ?_)
  refine l_build ?_
  refine l_nilt 16 ?_
  refine l_lit (e := c_TNode) [(TNode.mk 0 (-1) [] [] [] [] [] [])] ?_
  refine l_build ?_
  refine l_box ?_
  refine l_assign ?_
  refine k_nil ?_
  refine f_t ?_
  refine k_seq ?_
  refine k_seq ?_
  refine k_reg ?_
  refine l_move ?_
  refine l_nilcell (te := 168) (b1 := 1019) (j := 2) 13192 2 ?_
  refine l_nilcell (te := 5) (b1 := 1019) (j := 4) 13194 1 ?_
  refine l_callX [(4000101, 1019), (4000102, 1017), (4000103, 13192), (4000104, 13194)] [1019, 1017, 13192, 13194] h (fun _ => parse_reader_declaration_s4_ok) (fun v3 _ h => ?_)
  refine l_un ?_
  refine k_nil ?_
  refine f_t ?_
  refine k_if h (fun _ h => ?_) (fun _ h => ?_)
  · refine k_seq ?_
    refine k_reg ?_
    refine l_assign ?_
    refine l_assign ?_
    refine k_nil ?_
    refine f_t ?_
    refine k_retc ?_
    refine f_tr ?_
    apply k_retN [] hB h
  refine k_skip ?_
  refine f_t ?_
  refine k_seq ?_
  refine k_block ?_
  refine k_loop (fun y4 => ⟨[(4, .ptr 1019 0)], [(1019, .box 95 [S y4.1, .sl 1017 0 y4.2.1.length, .sl 13192 0 y4.2.2.length, .pl (.pointer none), .sl 13194 0 0, B false]), (1017, .row 89 8 0 (F c_TNode y4.2.1)), (13192, .row 168 2 0 (F c_TOpen_ y4.2.2)), (13194, .row 5 1 0 (F cU []))], []⟩) (Sum.elim (fun q6 => (.ret, ⟨[(2, .pl (.pointer none)), (3, I 2)], [], [1017, 13192]⟩)) (fun q7 => (.exit 1, ⟨[(4, .ptr 1019 0)], [(1019, .box 95 [S q7.1, .sl 1017 0 q7.2.1.length, .sl 13192 0 q7.2.2.length, .pl (.pointer none), .sl 13194 0 0, B false]), (1017, .row 89 8 0 (F c_TNode q7.2.1)), (13192, .row 168 2 0 (F c_TOpen_ q7.2.2)), (13194, .row 5 1 0 (F cU []))], []⟩))) [(1019, 1019), (1017, 1017), (13192, 13192), (13194, 13194)] hB h (fun y4 t h => ?_) (fun q h => ?_)
  · unfold parse_Parse_b1 at h
    refine k_seq ?_
    refine k_seq ?_
    refine k_reg ?_
    refine l_move ?_
    refine l_nilCheck ?_
    refine l_fieldAddr ?_
    refine l_load ?_
    refine l_sne ?_
    refine k_nil ?_
    refine f_t ?_
    refine k_if h (fun _ h => ?_) (fun _ h => ?_)
    · refine k_skip ?_
      refine f_t ?_
      refine k_block ?_
      refine k_seq ?_
      refine k_reg ?_
      refine l_move ?_
      refine l_callX [(11000101, 1019), (11000102, 1017), (11000103, 13192), (11000104, 13194)] [1019, 1017, 13192, 13194] h (fun _ => parse_reader_step_s11_ok) (fun v5 _ h => ?_)
      refine l_un ?_
      refine k_nil ?_
      refine f_t ?_
      refine k_if h (fun _ h => ?_) (fun _ h => ?_)
      · refine k_seq ?_
        refine k_reg ?_
        refine l_assign ?_
        refine l_assign ?_
        refine k_nil ?_
        refine f_t ?_
        refine k_retc ?_
        refine f_br ?_
        exact k_brk [] hB h
      refine k_skip ?_
      refine f_b ?_
      exact k_next [(1019, 1019), (1017, 1017), (13192, 13192), (13194, 13194)] hB h
    refine k_exit ?_
    refine f_te ?_
    exact k_brk [(1019, 1019), (1017, 1017), (13192, 13192), (13194, 13194)] hB h
  rcases q with q6 | q7
  · dsimp only [Sum.elim] at h ⊢
    refine f_br ?_
    refine f_tr ?_
    apply k_retN [] hB h
  dsimp only [Sum.elim] at h ⊢
  refine f_be ?_
  refine f_t ?_
  refine k_seq ?_
  refine k_seq ?_
  refine k_reg ?_
  refine l_move ?_
  refine l_nilCheck ?_
  refine l_fieldAddr ?_
  refine l_load ?_
  refine l_len ?_
  refine l_cmp ?_
  refine k_nil ?_
  refine f_t ?_
  refine k_if h (fun _ h => ?_) (fun _ h => ?_)
  · refine k_seq ?_
    refine k_reg ?_
    refine l_assign ?_
    refine l_assign ?_
    refine k_nil ?_
    refine f_t ?_
    refine k_retc ?_
    refine f_tr ?_
    apply k_retN [] hB h
  refine k_skip ?_
  refine f_t ?_
  refine k_seq ?_
  refine k_reg ?_
  refine l_move ?_
  refine l_nilCheck ?_
  refine l_fieldAddr ?_
  refine l_load ?_
  refine l_frz 1017 ?_
  refine l_call h (fun _ => doc_Of_ok) (fun v8 _ h => ?_)
  refine l_extract ?_
  refine l_extract ?_
  refine l_assign ?_
  refine l_assign ?_
  refine k_nil ?_
  refine f_t ?_
  refine k_retc ?_
  apply k_ret [] hB h
theorem doc_Doc_Len_ok {d : (Option TDoc)} {r : Int} (h : doc_Doc_Len d = some r) : XSpec Tryz.prog 55 [oP c_TDoc d] [] (I r) [] [] := by
  unfold doc_Doc_Len at h
  refine X_of_run Tryz.hU Tryz.func55 (fun _ _ _ hB => ?_)
  refine k_seq ?_
  refine k_reg ?_
  refine l_assign ?_
  refine k_nil ?_
  refine f_t ?_
  refine k_seq ?_
  refine k_seq ?_
  refine k_reg ?_
  refine l_move ?_
  refine l_pnil ?_
  refine k_nil ?_
  refine f_t ?_
  refine k_if h (fun _ h => ?_) (fun _ h => ?_)
  · refine k_seq ?_
    refine k_reg ?_
    refine l_assign ?_
    refine k_nil ?_
    refine f_t ?_
    refine k_retc ?_
    refine f_tr ?_
    apply k_ret [] hB h
  refine k_skip ?_
  refine f_t ?_
  refine k_seq ?_
  refine k_reg ?_
  refine l_move ?_
  refine l_deref h (fun v1 _ h => ?_)
  refine l_fieldAddr ?_
  refine l_load ?_
  refine l_len ?_
  refine l_assign ?_
  refine k_nil ?_
  refine f_t ?_
  refine k_retc ?_
  apply k_ret [] hB h
theorem doc_Doc_has_ok {d : (Option TDoc)} {n : Int} {r : Bool} (h : doc_Doc_has d n = some r) : XSpec Tryz.prog 103 [oP c_TDoc d, I n] [] (B r) [] [] := by
  unfold doc_Doc_has at h
  refine X_of_run Tryz.hU Tryz.func103 (fun _ _ _ hB => ?_)
  refine k_seq ?_
  refine k_reg ?_
  refine l_assign ?_
  refine k_nil ?_
  refine f_t ?_
  refine k_seq ?_
  refine k_reg ?_
  refine l_move ?_
  refine l_cmp ?_
  refine l_move ?_
  refine l_split h (fun _ h => ?_) (fun _ h => ?_)
  · refine l_on ?_
    refine l_move ?_
    refine l_on ?_
    refine l_move ?_
    refine l_on ?_
    refine l_call h (fun _ => doc_Doc_Len_ok) (fun v1 _ h => ?_)
    refine l_on ?_
    refine l_cmp ?_
    refine l_pick_true ?_
    refine l_assign ?_
    refine k_nil ?_
    refine f_t ?_
    refine k_retc ?_
    apply k_ret [] hB h
  refine l_off ?_
  refine l_off ?_
  refine l_off ?_
  refine l_off ?_
  refine l_pick_false ?_
  refine l_assign ?_
  refine k_nil ?_
  refine f_t ?_
  refine k_retc ?_
  apply k_ret [] hB h
theorem doc_Doc_Node_ok {d : (Option TDoc)} {n : Int} {r : TNode} (h : doc_Doc_Node d n = some r) : XSpec Tryz.prog 61 [oP c_TDoc d, I n] [] (.agg (c_TNode r)) [] [] := by
  unfold doc_Doc_Node at h
  refine X_of_run Tryz.hU Tryz.func61 (fun _ _ _ hB => ?_)
  refine k_seq ?_
  refine k_reg ?_
  refine l_alloc ?_
  refine k_nil ?_
  refine f_t ?_
  refine k_seq ?_
  refine k_seq ?_
  refine k_reg ?_
  refine l_move ?_
  refine l_move ?_
  refine l_call h (fun _ => doc_Doc_has_ok) (fun v1 _ h => ?_)
  refine l_un ?_
  refine k_nil ?_
  refine f_t ?_
  refine k_if h (fun _ h => ?_) (fun _ h => ?_)
  · refine k_seq ?_
    refine k_reg ?_
    refine l_build ?_
    refine l_store_box ?_
    refine k_nil ?_
    refine f_t ?_
    refine k_retc ?_
    refine f_tr ?_
    apply k_retN [] hB h
  refine k_skip ?_
  refine f_t ?_
  refine k_seq ?_
  refine k_reg ?_
  refine l_move ?_
  refine l_deref h (fun v2 _ h => ?_)
  refine l_fieldAddr ?_
  refine l_load ?_
  refine l_move ?_
  refine l_at h (fun v3 _ h => ?_)
  refine l_load_agg ?_
  refine l_callX [(1, 101701), (2, 101702)] [] h (fun _ => doc_clone_ok) (fun v4 _ h => ?_)
  refine l_store_box ?_
  refine k_nil ?_
  refine f_t ?_
  refine k_retc ?_
  refine f_frz 101701 ?_
  refine f_frz 101702 ?_
  apply k_ret [] hB h
theorem ident_names_ok {a : TAttr} {r : Bool} (h : ident_names a = some r) : XSpec Tryz.prog 94 [.agg (c_TAttr a)] [] (B r) [] [] := by
  unfold ident_names at h
  refine X_of_run Tryz.hU Tryz.func94 (fun _ _ _ hB => ?_)
  refine k_seq ?_
  refine k_reg ?_
  refine l_box ?_
  refine l_assign ?_
  refine k_nil ?_
  refine f_t ?_
  refine k_seq ?_
  refine k_seq ?_
  refine k_reg ?_
  refine l_fieldAddr ?_
  refine l_load ?_
  refine l_seq ?_
  refine k_nil ?_
  refine f_t ?_
  refine k_if h (fun _ h => ?_) (fun _ h => ?_)
  · refine k_seq ?_
    refine k_reg ?_
    refine l_fieldAddr ?_
    refine l_load ?_
    refine l_seq ?_
    refine l_assign ?_
    refine k_nil ?_
    refine f_t ?_
    refine k_retc ?_
    refine f_tr ?_
    apply k_ret [] hB h
  refine k_skip ?_
  refine f_t ?_
  refine k_seq ?_
  refine k_reg ?_
  refine l_fieldAddr ?_
  refine l_load ?_
  refine l_seq ?_
  refine l_move ?_
  refine l_split h (fun _ h => ?_) (fun _ h => ?_)
  · refine l_on ?_
    refine l_fieldAddr ?_
    refine l_on ?_
    refine l_load ?_
    refine l_on ?_
    refine l_seq ?_
    refine l_on ?_
    refine l_move ?_
    refine l_split h (fun _ h => ?_) (fun _ h => ?_)
    · refine l_off ?_
      refine l_off ?_
      refine l_off ?_
      refine l_on ?_
      refine l_pick_true ?_
      refine l_on ?_
      refine l_move ?_
      refine l_off ?_
      refine l_off ?_
      refine l_off ?_
      refine l_on ?_
      refine l_pick_true ?_
      refine l_pick_true ?_
      refine l_assign ?_
      refine k_nil ?_
      refine f_t ?_
      refine k_retc ?_
      apply k_ret [] hB h
    refine l_on ?_
    refine l_fieldAddr ?_
    refine l_on ?_
    refine l_load ?_
    refine l_on ?_
    refine l_seq ?_
    refine l_on ?_
    refine l_pick_false ?_
    refine l_on ?_
    refine l_move ?_
    refine l_split h (fun _ h => ?_) (fun _ h => ?_)
    · refine l_off ?_
      refine l_off ?_
      refine l_off ?_
      refine l_on ?_
      refine l_pick_true ?_
      refine l_pick_true ?_
      refine l_assign ?_
      refine k_nil ?_
      refine f_t ?_
      refine k_retc ?_
      apply k_ret [] hB h
    refine l_on ?_
    refine l_fieldAddr ?_
    refine l_on ?_
    refine l_load ?_
    refine l_on ?_
    refine l_seq ?_
    refine l_on ?_
    refine l_pick_false ?_
    refine l_pick_true ?_
    refine l_assign ?_
    refine k_nil ?_
    refine f_t ?_
    refine k_retc ?_
    apply k_ret [] hB h
  refine l_off ?_
  refine l_off ?_
  refine l_off ?_
  refine l_off ?_
  refine l_off ?_
  refine l_off ?_
  refine l_off ?_
  refine l_off ?_
  refine l_off ?_
  refine l_off ?_
  refine l_off ?_
  refine l_off ?_
  refine l_off ?_
  refine l_pick_false ?_
  refine l_assign ?_
  refine k_nil ?_
  refine f_t ?_
  refine k_retc ?_
  apply k_ret [] hB h
theorem ident_Index_add_s26_ok {u1 : Int} {u2 : (Option TDoc)} {u3 : (List (Str × Int))} {r : Bool} (h : ident_Index_add_s26 u1 u2 u3 = some r) : XSpec Tryz.prog 56 [.ptr 26000101 0, I u1] [(26000101, .box 99 [oP c_TDoc u2, .mp 26000102]), (26000102, .map (MP kS (fun v => I v) u3))] (B r) [(26000101, .box 99 [oP c_TDoc u2, .mp 26000102]), (26000102, .map (MP kS (fun v => I v) u3))] [] := by
  unfold ident_Index_add_s26 at h
  refine X_of_run Tryz.hU Tryz.func56 (fun _ _ _ hB => ?_)
  refine k_seq ?_
  refine k_reg ?_
  refine l_assign ?_
  refine k_nil ?_
  refine f_t ?_
  refine k_seq ?_
  refine k_seq ?_
  refine k_reg ?_
  refine l_move ?_
  refine l_nilCheck ?_
  refine l_fieldAddr ?_
  refine l_load ?_
  refine l_move ?_
  refine l_call h (fun _ => doc_Doc_Node_ok) (fun v1 _ h => ?_)
  refine l_field ?_
  refine l_len ?_
  refine l_move ?_
  refine k_nil ?_
  refine f_t ?_
  refine k_block ?_
  refine k_loop (fun y2 => ⟨[(0, .ptr 26000101 0), (1, I u1), (15, .vs v1.Attrs.length (F c_TAttr v1.Attrs)), (16, I (v1.Attrs.length : Int)), (17, I y2)], [(26000101, .box 99 [oP c_TDoc u2, .mp 26000102]), (26000102, .map (MP kS (fun v => I v) u3))], []⟩) (Sum.elim (fun q5 => (.ret, ⟨[(4, B false)], [(26000101, .box 99 [oP c_TDoc u2, .mp 26000102]), (26000102, .map (MP kS (fun v => I v) u3))], []⟩)) (fun q6 => (.exit 0, ⟨[], [(26000101, .box 99 [oP c_TDoc u2, .mp 26000102]), (26000102, .map (MP kS (fun v => I v) u3))], []⟩))) [(26000101, 26000101), (26000102, 26000102)] hB h (fun y2 t h => ?_) (fun q h => ?_)
  · unfold ident_Index_add_s26_b1 at h
    refine k_seq ?_
    refine k_reg ?_
    refine l_cmp ?_
    refine k_nil ?_
    refine f_t ?_
    refine k_seq ?_
    refine k_if h (fun _ h => ?_) (fun _ h => ?_)
    · refine k_skip ?_
      refine f_t ?_
      refine k_seq ?_
      refine k_block ?_
      refine k_seq ?_
      refine k_reg ?_
      refine l_at h (fun v3 _ h => ?_)
      refine l_load_agg ?_
      refine l_alloc ?_
      refine l_store_box ?_
      refine k_nil ?_
      refine f_t ?_
      refine k_seq ?_
      refine k_seq ?_
      refine k_reg ?_
      refine l_load_agg ?_
      refine l_call h (fun _ => ident_names_ok) (fun v4 _ h => ?_)
      refine l_un ?_
      refine k_nil ?_
      refine f_t ?_
      refine k_if h (fun _ h => ?_) (fun _ h => ?_)
      · refine k_exit ?_
        refine f_te ?_
        refine f_be ?_
        refine f_t ?_
        refine k_reg ?_
        refine l_addw ?_
        refine l_move ?_
        refine k_nil ?_
        exact k_next [(26000101, 26000101), (26000102, 26000102)] hB h
      refine k_skip ?_
      refine f_t ?_
      refine k_seq ?_
      refine k_seq ?_
      refine k_mix [] (.q 0 (.q 1 (.q 2 (.q 3 (.q 4 (.q 5 (.q 6 (.q 7 (.q 8 (.q 9 (.q 10 (.q 11 (.done))))))))))))) hm ?_
      refine gq ?_
      refine n_move ?_
      refine gq ?_
      refine n_nilCheck ?_
      refine gq ?_
      refine n_fieldAddr ?_
      refine gq ?_
      refine n_load ?_
      refine gq ?_
      refine n_fieldAddr ?_
      refine gq ?_
      refine n_load ?_
      refine gq ?_
      refine n_mget keyS (ev := (fun v => I v)) (m := u3) (k := v3.Value) 0 ?_
      refine gq ?_
      refine n_move ?_
      refine gq ?_
      refine n_extract ?_
      refine gq ?_
      refine n_extract ?_
      refine gq ?_
      refine n_assign ?_
      refine gq ?_
      refine n_assign ?_
      refine m_nil ?_
      refine f_t ?_
      refine k_seq ?_
      refine k_reg ?_
      refine l_move ?_
      refine k_nil ?_
      refine f_t ?_
      refine k_if h (fun _ h => ?_) (fun _ h => ?_)
      · refine k_seq ?_
        refine k_reg ?_
        refine l_assign ?_
        refine k_nil ?_
        refine f_t ?_
        refine k_retc ?_
        refine f_tr ?_
        refine f_br ?_
        refine f_tr ?_
        exact k_brk [(26000101, 26000101), (26000102, 26000102)] hB h
      refine k_skip ?_
      refine f_t ?_
      refine k_mix [] (.q 0 (.q 1 (.q 2 (.q 3 (.q 4 (.q 5 (.q 6 (.e 7 (.done))))))))) hm ?_
      refine gq ?_
      refine n_move ?_
      refine gq ?_
      refine n_nilCheck ?_
      refine gq ?_
      refine n_fieldAddr ?_
      refine gq ?_
      refine n_load ?_
      refine gq ?_
      refine n_fieldAddr ?_
      refine gq ?_
      refine n_load ?_
      refine gq ?_
      refine n_move ?_
      refine ge ?_
      cases h
    refine k_exit ?_
    refine f_te ?_
    exact k_brk [(26000101, 26000101), (26000102, 26000102)] hB h
  rcases q with q5 | q6
  · dsimp only [Sum.elim] at h ⊢
    refine f_br ?_
    refine f_tr ?_
    apply k_ret [(26000101, 26000101), (26000102, 26000102)] hB h
  dsimp only [Sum.elim] at h ⊢
  refine f_be ?_
  refine f_t ?_
  refine k_seq ?_
  refine k_reg ?_
  refine l_assign ?_
  refine k_nil ?_
  refine f_t ?_
  refine k_retc ?_
  apply k_ret [(26000101, 26000101), (26000102, 26000102)] hB h
theorem ident_Of_ok {d : (Option TDoc)} {r : (Option TIndex) × Int} (h : ident_Of d = some r) : XSpec Tryz.prog 26 [oP c_TDoc d] [] (.tup [oP c_TIndex r.1, I r.2]) [] [] := by
  unfold ident_Of at h
  refine X_of_run Tryz.hU Tryz.func26 (fun _ _ _ hB => ?_)
  refine k_seq ?_
  refine k_reg ?_
  refine l_assign ?_
  refine l_assign ?_
  refine k_nil ?_
  refine f_t ?_
  refine k_seq ?_
  refine k_seq ?_
  refine k_reg ?_
  refine l_move ?_
  refine l_pnil ?_
  refine k_nil ?_
  refine f_t ?_
  refine k_if h (fun _ h => ?_) (fun _ h => ?_)
  · refine k_seq ?_
    refine k_reg ?_
    refine l_assign ?_
    refine l_assign ?_
    refine k_nil ?_
    refine f_t ?_
    refine k_retc ?_
    refine f_tr ?_
    apply k_retN [] hB h
  refine k_skip ?_
  refine f_t ?_
  refine k_seq ?_
  refine k_reg ?_
  refine l_move ?_
  refine l_mmake ?_
  refine l_build ?_
  refine l_box ?_
  refine l_assign ?_
  refine k_nil ?_
  refine f_t ?_
  refine k_seq ?_
  refine k_seq ?_
  refine k_reg ?_
  refine l_move ?_
  refine l_nilCheck ?_
  refine l_fieldAddr ?_
  refine l_load ?_
  refine l_call h (fun _ => doc_Doc_Len_ok) (fun v1 _ h => ?_)
  refine l_move ?_
  refine k_nil ?_
  refine f_t ?_
  refine k_block ?_
  refine k_loop (fun y2 => ⟨[(4, .ptr 1011 0), (16, I v1), (17, I y2)], [(1011, .box 99 [oP c_TDoc d, .mp 1009]), (1009, .map (MP kS (fun v => I v) []))], []⟩) (Sum.elim (fun q4 => (.ret, ⟨[(2, .pl (.pointer none)), (3, I 9)], [], []⟩)) (fun q5 => (.exit 0, ⟨[(4, .ptr 1011 0)], [(1011, .box 99 [oP c_TDoc d, .mp 1009]), (1009, .map (MP kS (fun v => I v) []))], []⟩))) [(1011, 1011), (1009, 1009)] hB h (fun y2 t h => ?_) (fun q h => ?_)
  · unfold ident_Of_b1 at h
    refine k_seq ?_
    refine k_reg ?_
    refine l_cmp ?_
    refine k_nil ?_
    refine f_t ?_
    refine k_seq ?_
    refine k_if h (fun _ h => ?_) (fun _ h => ?_)
    · refine k_skip ?_
      refine f_t ?_
      refine k_seq ?_
      refine k_block ?_
      refine k_seq ?_
      refine k_reg ?_
      refine l_move ?_
      refine l_assign ?_
      refine k_nil ?_
      refine f_t ?_
      refine k_seq ?_
      refine k_reg ?_
      refine l_move ?_
      refine l_move ?_
      refine l_callX [(26000101, 1011), (26000102, 1009)] [1011, 1009] h (fun _ => ident_Index_add_s26_ok) (fun v3 _ h => ?_)
      refine l_un ?_
      refine k_nil ?_
      refine f_t ?_
      refine k_if h (fun _ h => ?_) (fun _ h => ?_)
      · refine k_seq ?_
        refine k_reg ?_
        refine l_assign ?_
        refine l_assign ?_
        refine k_nil ?_
        refine f_t ?_
        refine k_retc ?_
        refine f_br ?_
        refine f_tr ?_
        exact k_brk [] hB h
      refine k_skip ?_
      refine f_b ?_
      refine f_t ?_
      refine k_reg ?_
      refine l_addw ?_
      refine l_move ?_
      refine k_nil ?_
      exact k_next [(1011, 1011), (1009, 1009)] hB h
    refine k_exit ?_
    refine f_te ?_
    exact k_brk [(1011, 1011), (1009, 1009)] hB h
  rcases q with q4 | q5
  · dsimp only [Sum.elim] at h ⊢
    refine f_br ?_
    refine f_tr ?_
    apply k_retN [] hB h
  dsimp only [Sum.elim] at h ⊢
  refine f_be ?_
  refine f_t ?_
  refine k_seq ?_
  refine k_reg ?_
  refine l_move ?_
  refine l_assign ?_
  refine l_assign ?_
  refine k_nil ?_
  refine f_t ?_
  refine k_retc ?_
  refine f_frzm (m := []) 1009 ?_
  refine f_frz 1011 ?_
  apply k_ret [] hB h
theorem value_OfNumber_ok {n : Int} {r : TValue × Int} (h : value_OfNumber n = some r) : XSpec Tryz.prog 30 [I n] [] (.tup [.agg (c_TValue r.1), I r.2]) [] [] := by
  unfold value_OfNumber at h
  refine X_of_run Tryz.hU Tryz.func30 (fun _ _ _ hB => ?_)
  refine k_seq ?_
  refine k_reg ?_
  refine l_alloc ?_
  refine l_assign ?_
  refine k_nil ?_
  refine f_t ?_
  refine k_seq ?_
  refine k_seq ?_
  refine k_reg ?_
  refine l_move ?_
  refine l_cmp ?_
  refine l_move ?_
  refine l_split h (fun _ h => ?_) (fun _ h => ?_)
  · refine l_off ?_
    refine l_off ?_
    refine l_pick_true ?_
    refine k_nil ?_
    refine f_t ?_
    refine k_t ?_
    refine k_seq ?_
    refine k_reg ?_
    refine l_build ?_
    refine l_store_box ?_
    refine l_assign ?_
    refine k_nil ?_
    refine f_t ?_
    refine k_retc ?_
    refine f_tr ?_
    apply k_retN [] hB h
  refine l_on ?_
  refine l_move ?_
  refine l_on ?_
  refine l_cmp ?_
  refine l_pick_false ?_
  refine k_nil ?_
  refine f_t ?_
  refine k_if h (fun _ h => ?_) (fun _ h => ?_)
  · refine k_seq ?_
    refine k_reg ?_
    refine l_build ?_
    refine l_store_box ?_
    refine l_assign ?_
    refine k_nil ?_
    refine f_t ?_
    refine k_retc ?_
    refine f_tr ?_
    apply k_retN [] hB h
  refine k_skip ?_
  refine f_t ?_
  refine k_seq ?_
  refine k_reg ?_
  refine l_move ?_
  refine l_build ?_
  refine l_store_box ?_
  refine l_assign ?_
  refine k_nil ?_
  refine f_t ?_
  refine k_retc ?_
  apply k_retN [] hB h
theorem value_OfText_ok {s : Str} {r : TValue} (h : value_OfText s = some r) : XSpec Tryz.prog 28 [S s] [] (.agg (c_TValue r)) [] [] := by
  unfold value_OfText at h
  refine X_of_run Tryz.hU Tryz.func28 (fun _ _ _ hB => ?_)
  refine k_seq ?_
  refine k_reg ?_
  refine l_alloc ?_
  refine k_nil ?_
  refine f_t ?_
  refine k_seq ?_
  refine k_reg ?_
  refine l_move ?_
  refine l_build ?_
  refine l_store_box ?_
  refine k_nil ?_
  refine f_t ?_
  refine k_retc ?_
  apply k_retN [] hB h
theorem call_shapes_ok {r : (List (Str × TShape))} (h : call_shapes = some r) : XSpec Tryz.prog 57 [] [] (.mp 1) [(1, .map (MP kS (fun v => .agg (c_TShape v)) r))] [] := by
  unfold call_shapes at h
  refine X_of_run Tryz.hU Tryz.func57 (fun _ _ _ hB => ?_)
  refine k_seq ?_
  refine k_reg ?_
  refine l_assign ?_
  refine k_nil ?_
  refine f_t ?_
  refine k_seq ?_
  refine k_reg ?_
  refine l_mmake ?_
  refine l_build ?_
  refine l_mput keyS (ev := (fun v => .agg (c_TShape v))) (m := []) (k := [108, 97, 115, 116]) (TShape.mk 0 0 false) ?_
  refine l_build ?_
  refine l_mput keyS (ev := (fun v => .agg (c_TShape v))) (m := (mput [] [108, 97, 115, 116] (TShape.mk 0 0 false))) (k := [112, 111, 115, 105, 116, 105, 111, 110]) (TShape.mk 0 0 false) ?_
  refine l_build ?_
  refine l_mput keyS (ev := (fun v => .agg (c_TShape v))) (m := (mput (mput [] [108, 97, 115, 116] (TShape.mk 0 0 false)) [112, 111, 115, 105, 116, 105, 111, 110] (TShape.mk 0 0 false))) (k := [99, 111, 117, 110, 116]) (TShape.mk 1 1 true) ?_
  refine l_build ?_
  refine l_mput keyS (ev := (fun v => .agg (c_TShape v))) (m := (mput (mput (mput [] [108, 97, 115, 116] (TShape.mk 0 0 false)) [112, 111, 115, 105, 116, 105, 111, 110] (TShape.mk 0 0 false)) [99, 111, 117, 110, 116] (TShape.mk 1 1 true))) (k := [105, 100]) (TShape.mk 1 1 false) ?_
  refine l_build ?_
  refine l_mput keyS (ev := (fun v => .agg (c_TShape v))) (m := (mput (mput (mput (mput [] [108, 97, 115, 116] (TShape.mk 0 0 false)) [112, 111, 115, 105, 116, 105, 111, 110] (TShape.mk 0 0 false)) [99, 111, 117, 110, 116] (TShape.mk 1 1 true)) [105, 100] (TShape.mk 1 1 false))) (k := [108, 111, 99, 97, 108, 45, 110, 97, 109, 101]) (TShape.mk 0 1 true) ?_
  refine l_build ?_
  refine l_mput keyS (ev := (fun v => .agg (c_TShape v))) (m := (mput (mput (mput (mput (mput [] [108, 97, 115, 116] (TShape.mk 0 0 false)) [112, 111, 115, 105, 116, 105, 111, 110] (TShape.mk 0 0 false)) [99, 111, 117, 110, 116] (TShape.mk 1 1 true)) [105, 100] (TShape.mk 1 1 false)) [108, 111, 99, 97, 108, 45, 110, 97, 109, 101] (TShape.mk 0 1 true))) (k := [110, 97, 109, 101, 115, 112, 97, 99, 101, 45, 117, 114, 105]) (TShape.mk 0 1 true) ?_
  refine l_build ?_
  refine l_mput keyS (ev := (fun v => .agg (c_TShape v))) (m := (mput (mput (mput (mput (mput (mput [] [108, 97, 115, 116] (TShape.mk 0 0 false)) [112, 111, 115, 105, 116, 105, 111, 110] (TShape.mk 0 0 false)) [99, 111, 117, 110, 116] (TShape.mk 1 1 true)) [105, 100] (TShape.mk 1 1 false)) [108, 111, 99, 97, 108, 45, 110, 97, 109, 101] (TShape.mk 0 1 true)) [110, 97, 109, 101, 115, 112, 97, 99, 101, 45, 117, 114, 105] (TShape.mk 0 1 true))) (k := [110, 97, 109, 101]) (TShape.mk 0 1 true) ?_
  refine l_build ?_
  refine l_mput keyS (ev := (fun v => .agg (c_TShape v))) (m := (mput (mput (mput (mput (mput (mput (mput [] [108, 97, 115, 116] (TShape.mk 0 0 false)) [112, 111, 115, 105, 116, 105, 111, 110] (TShape.mk 0 0 false)) [99, 111, 117, 110, 116] (TShape.mk 1 1 true)) [105, 100] (TShape.mk 1 1 false)) [108, 111, 99, 97, 108, 45, 110, 97, 109, 101] (TShape.mk 0 1 true)) [110, 97, 109, 101, 115, 112, 97, 99, 101, 45, 117, 114, 105] (TShape.mk 0 1 true)) [110, 97, 109, 101] (TShape.mk 0 1 true))) (k := [115, 116, 114, 105, 110, 103]) (TShape.mk 0 1 false) ?_
  refine l_build ?_
  refine l_mput keyS (ev := (fun v => .agg (c_TShape v))) (m := (mput (mput (mput (mput (mput (mput (mput (mput [] [108, 97, 115, 116] (TShape.mk 0 0 false)) [112, 111, 115, 105, 116, 105, 111, 110] (TShape.mk 0 0 false)) [99, 111, 117, 110, 116] (TShape.mk 1 1 true)) [105, 100] (TShape.mk 1 1 false)) [108, 111, 99, 97, 108, 45, 110, 97, 109, 101] (TShape.mk 0 1 true)) [110, 97, 109, 101, 115, 112, 97, 99, 101, 45, 117, 114, 105] (TShape.mk 0 1 true)) [110, 97, 109, 101] (TShape.mk 0 1 true)) [115, 116, 114, 105, 110, 103] (TShape.mk 0 1 false))) (k := [99, 111, 110, 99, 97, 116]) (TShape.mk 2 1048576 false) ?_
  refine l_build ?_
  refine l_mput keyS (ev := (fun v => .agg (c_TShape v))) (m := (mput (mput (mput (mput (mput (mput (mput (mput (mput [] [108, 97, 115, 116] (TShape.mk 0 0 false)) [112, 111, 115, 105, 116, 105, 111, 110] (TShape.mk 0 0 false)) [99, 111, 117, 110, 116] (TShape.mk 1 1 true)) [105, 100] (TShape.mk 1 1 false)) [108, 111, 99, 97, 108, 45, 110, 97, 109, 101] (TShape.mk 0 1 true)) [110, 97, 109, 101, 115, 112, 97, 99, 101, 45, 117, 114, 105] (TShape.mk 0 1 true)) [110, 97, 109, 101] (TShape.mk 0 1 true)) [115, 116, 114, 105, 110, 103] (TShape.mk 0 1 false)) [99, 111, 110, 99, 97, 116] (TShape.mk 2 1048576 false))) (k := [115, 116, 97, 114, 116, 115, 45, 119, 105, 116, 104]) (TShape.mk 2 2 false) ?_
  refine l_build ?_
  refine l_mput keyS (ev := (fun v => .agg (c_TShape v))) (m := (mput (mput (mput (mput (mput (mput (mput (mput (mput (mput [] [108, 97, 115, 116] (TShape.mk 0 0 false)) [112, 111, 115, 105, 116, 105, 111, 110] (TShape.mk 0 0 false)) [99, 111, 117, 110, 116] (TShape.mk 1 1 true)) [105, 100] (TShape.mk 1 1 false)) [108, 111, 99, 97, 108, 45, 110, 97, 109, 101] (TShape.mk 0 1 true)) [110, 97, 109, 101, 115, 112, 97, 99, 101, 45, 117, 114, 105] (TShape.mk 0 1 true)) [110, 97, 109, 101] (TShape.mk 0 1 true)) [115, 116, 114, 105, 110, 103] (TShape.mk 0 1 false)) [99, 111, 110, 99, 97, 116] (TShape.mk 2 1048576 false)) [115, 116, 97, 114, 116, 115, 45, 119, 105, 116, 104] (TShape.mk 2 2 false))) (k := [99, 111, 110, 116, 97, 105, 110, 115]) (TShape.mk 2 2 false) ?_
  refine l_build ?_
  refine l_mput keyS (ev := (fun v => .agg (c_TShape v))) (m := (mput (mput (mput (mput (mput (mput (mput (mput (mput (mput (mput [] [108, 97, 115, 116] (TShape.mk 0 0 false)) [112, 111, 115, 105, 116, 105, 111, 110] (TShape.mk 0 0 false)) [99, 111, 117, 110, 116] (TShape.mk 1 1 true)) [105, 100] (TShape.mk 1 1 false)) [108, 111, 99, 97, 108, 45, 110, 97, 109, 101] (TShape.mk 0 1 true)) [110, 97, 109, 101, 115, 112, 97, 99, 101, 45, 117, 114, 105] (TShape.mk 0 1 true)) [110, 97, 109, 101] (TShape.mk 0 1 true)) [115, 116, 114, 105, 110, 103] (TShape.mk 0 1 false)) [99, 111, 110, 99, 97, 116] (TShape.mk 2 1048576 false)) [115, 116, 97, 114, 116, 115, 45, 119, 105, 116, 104] (TShape.mk 2 2 false)) [99, 111, 110, 116, 97, 105, 110, 115] (TShape.mk 2 2 false))) (k := [115, 117, 98, 115, 116, 114, 105, 110, 103, 45, 98, 101, 102, 111, 114, 101]) (TShape.mk 2 2 false) ?_
  refine l_build ?_
  refine l_mput keyS (ev := (fun v => .agg (c_TShape v))) (m := (mput (mput (mput (mput (mput (mput (mput (mput (mput (mput (mput (mput [] [108, 97, 115, 116] (TShape.mk 0 0 false)) [112, 111, 115, 105, 116, 105, 111, 110] (TShape.mk 0 0 false)) [99, 111, 117, 110, 116] (TShape.mk 1 1 true)) [105, 100] (TShape.mk 1 1 false)) [108, 111, 99, 97, 108, 45, 110, 97, 109, 101] (TShape.mk 0 1 true)) [110, 97, 109, 101, 115, 112, 97, 99, 101, 45, 117, 114, 105] (TShape.mk 0 1 true)) [110, 97, 109, 101] (TShape.mk 0 1 true)) [115, 116, 114, 105, 110, 103] (TShape.mk 0 1 false)) [99, 111, 110, 99, 97, 116] (TShape.mk 2 1048576 false)) [115, 116, 97, 114, 116, 115, 45, 119, 105, 116, 104] (TShape.mk 2 2 false)) [99, 111, 110, 116, 97, 105, 110, 115] (TShape.mk 2 2 false)) [115, 117, 98, 115, 116, 114, 105, 110, 103, 45, 98, 101, 102, 111, 114, 101] (TShape.mk 2 2 false))) (k := [115, 117, 98, 115, 116, 114, 105, 110, 103, 45, 97, 102, 116, 101, 114]) (TShape.mk 2 2 false) ?_
  refine l_build ?_
  refine l_mput keyS (ev := (fun v => .agg (c_TShape v))) (m := (mput (mput (mput (mput (mput (mput (mput (mput (mput (mput (mput (mput (mput [] [108, 97, 115, 116] (TShape.mk 0 0 false)) [112, 111, 115, 105, 116, 105, 111, 110] (TShape.mk 0 0 false)) [99, 111, 117, 110, 116] (TShape.mk 1 1 true)) [105, 100] (TShape.mk 1 1 false)) [108, 111, 99, 97, 108, 45, 110, 97, 109, 101] (TShape.mk 0 1 true)) [110, 97, 109, 101, 115, 112, 97, 99, 101, 45, 117, 114, 105] (TShape.mk 0 1 true)) [110, 97, 109, 101] (TShape.mk 0 1 true)) [115, 116, 114, 105, 110, 103] (TShape.mk 0 1 false)) [99, 111, 110, 99, 97, 116] (TShape.mk 2 1048576 false)) [115, 116, 97, 114, 116, 115, 45, 119, 105, 116, 104] (TShape.mk 2 2 false)) [99, 111, 110, 116, 97, 105, 110, 115] (TShape.mk 2 2 false)) [115, 117, 98, 115, 116, 114, 105, 110, 103, 45, 98, 101, 102, 111, 114, 101] (TShape.mk 2 2 false)) [115, 117, 98, 115, 116, 114, 105, 110, 103, 45, 97, 102, 116, 101, 114] (TShape.mk 2 2 false))) (k := [115, 117, 98, 115, 116, 114, 105, 110, 103]) (TShape.mk 2 3 false) ?_
  refine l_build ?_
  refine l_mput keyS (ev := (fun v => .agg (c_TShape v))) (m := (mput (mput (mput (mput (mput (mput (mput (mput (mput (mput (mput (mput (mput (mput [] [108, 97, 115, 116] (TShape.mk 0 0 false)) [112, 111, 115, 105, 116, 105, 111, 110] (TShape.mk 0 0 false)) [99, 111, 117, 110, 116] (TShape.mk 1 1 true)) [105, 100] (TShape.mk 1 1 false)) [108, 111, 99, 97, 108, 45, 110, 97, 109, 101] (TShape.mk 0 1 true)) [110, 97, 109, 101, 115, 112, 97, 99, 101, 45, 117, 114, 105] (TShape.mk 0 1 true)) [110, 97, 109, 101] (TShape.mk 0 1 true)) [115, 116, 114, 105, 110, 103] (TShape.mk 0 1 false)) [99, 111, 110, 99, 97, 116] (TShape.mk 2 1048576 false)) [115, 116, 97, 114, 116, 115, 45, 119, 105, 116, 104] (TShape.mk 2 2 false)) [99, 111, 110, 116, 97, 105, 110, 115] (TShape.mk 2 2 false)) [115, 117, 98, 115, 116, 114, 105, 110, 103, 45, 98, 101, 102, 111, 114, 101] (TShape.mk 2 2 false)) [115, 117, 98, 115, 116, 114, 105, 110, 103, 45, 97, 102, 116, 101, 114] (TShape.mk 2 2 false)) [115, 117, 98, 115, 116, 114, 105, 110, 103] (TShape.mk 2 3 false))) (k := [115, 116, 114, 105, 110, 103, 45, 108, 101, 110, 103, 116, 104]) (TShape.mk 0 1 false) ?_
  refine l_build ?_
  refine l_mput keyS (ev := (fun v => .agg (c_TShape v))) (m := (mput (mput (mput (mput (mput (mput (mput (mput (mput (mput (mput (mput (mput (mput (mput [] [108, 97, 115, 116] (TShape.mk 0 0 false)) [112, 111, 115, 105, 116, 105, 111, 110] (TShape.mk 0 0 false)) [99, 111, 117, 110, 116] (TShape.mk 1 1 true)) [105, 100] (TShape.mk 1 1 false)) [108, 111, 99, 97, 108, 45, 110, 97, 109, 101] (TShape.mk 0 1 true)) [110, 97, 109, 101, 115, 112, 97, 99, 101, 45, 117, 114, 105] (TShape.mk 0 1 true)) [110, 97, 109, 101] (TShape.mk 0 1 true)) [115, 116, 114, 105, 110, 103] (TShape.mk 0 1 false)) [99, 111, 110, 99, 97, 116] (TShape.mk 2 1048576 false)) [115, 116, 97, 114, 116, 115, 45, 119, 105, 116, 104] (TShape.mk 2 2 false)) [99, 111, 110, 116, 97, 105, 110, 115] (TShape.mk 2 2 false)) [115, 117, 98, 115, 116, 114, 105, 110, 103, 45, 98, 101, 102, 111, 114, 101] (TShape.mk 2 2 false)) [115, 117, 98, 115, 116, 114, 105, 110, 103, 45, 97, 102, 116, 101, 114] (TShape.mk 2 2 false)) [115, 117, 98, 115, 116, 114, 105, 110, 103] (TShape.mk 2 3 false)) [115, 116, 114, 105, 110, 103, 45, 108, 101, 110, 103, 116, 104] (TShape.mk 0 1 false))) (k := [110, 111, 114, 109, 97, 108, 105, 122, 101, 45, 115, 112, 97, 99, 101]) (TShape.mk 0 1 false) ?_
  refine l_build ?_
  refine l_mput keyS (ev := (fun v => .agg (c_TShape v))) (m := (mput (mput (mput (mput (mput (mput (mput (mput (mput (mput (mput (mput (mput (mput (mput (mput [] [108, 97, 115, 116] (TShape.mk 0 0 false)) [112, 111, 115, 105, 116, 105, 111, 110] (TShape.mk 0 0 false)) [99, 111, 117, 110, 116] (TShape.mk 1 1 true)) [105, 100] (TShape.mk 1 1 false)) [108, 111, 99, 97, 108, 45, 110, 97, 109, 101] (TShape.mk 0 1 true)) [110, 97, 109, 101, 115, 112, 97, 99, 101, 45, 117, 114, 105] (TShape.mk 0 1 true)) [110, 97, 109, 101] (TShape.mk 0 1 true)) [115, 116, 114, 105, 110, 103] (TShape.mk 0 1 false)) [99, 111, 110, 99, 97, 116] (TShape.mk 2 1048576 false)) [115, 116, 97, 114, 116, 115, 45, 119, 105, 116, 104] (TShape.mk 2 2 false)) [99, 111, 110, 116, 97, 105, 110, 115] (TShape.mk 2 2 false)) [115, 117, 98, 115, 116, 114, 105, 110, 103, 45, 98, 101, 102, 111, 114, 101] (TShape.mk 2 2 false)) [115, 117, 98, 115, 116, 114, 105, 110, 103, 45, 97, 102, 116, 101, 114] (TShape.mk 2 2 false)) [115, 117, 98, 115, 116, 114, 105, 110, 103] (TShape.mk 2 3 false)) [115, 116, 114, 105, 110, 103, 45, 108, 101, 110, 103, 116, 104] (TShape.mk 0 1 false)) [110, 111, 114, 109, 97, 108, 105, 122, 101, 45, 115, 112, 97, 99, 101] (TShape.mk 0 1 false))) (k := [116, 114, 97, 110, 115, 108, 97, 116, 101]) (TShape.mk 3 3 false) ?_
  refine l_build ?_
  refine l_mput keyS (ev := (fun v => .agg (c_TShape v))) (m := (mput (mput (mput (mput (mput (mput (mput (mput (mput (mput (mput (mput (mput (mput (mput (mput (mput [] [108, 97, 115, 116] (TShape.mk 0 0 false)) [112, 111, 115, 105, 116, 105, 111, 110] (TShape.mk 0 0 false)) [99, 111, 117, 110, 116] (TShape.mk 1 1 true)) [105, 100] (TShape.mk 1 1 false)) [108, 111, 99, 97, 108, 45, 110, 97, 109, 101] (TShape.mk 0 1 true)) [110, 97, 109, 101, 115, 112, 97, 99, 101, 45, 117, 114, 105] (TShape.mk 0 1 true)) [110, 97, 109, 101] (TShape.mk 0 1 true)) [115, 116, 114, 105, 110, 103] (TShape.mk 0 1 false)) [99, 111, 110, 99, 97, 116] (TShape.mk 2 1048576 false)) [115, 116, 97, 114, 116, 115, 45, 119, 105, 116, 104] (TShape.mk 2 2 false)) [99, 111, 110, 116, 97, 105, 110, 115] (TShape.mk 2 2 false)) [115, 117, 98, 115, 116, 114, 105, 110, 103, 45, 98, 101, 102, 111, 114, 101] (TShape.mk 2 2 false)) [115, 117, 98, 115, 116, 114, 105, 110, 103, 45, 97, 102, 116, 101, 114] (TShape.mk 2 2 false)) [115, 117, 98, 115, 116, 114, 105, 110, 103] (TShape.mk 2 3 false)) [115, 116, 114, 105, 110, 103, 45, 108, 101, 110, 103, 116, 104] (TShape.mk 0 1 false)) [110, 111, 114, 109, 97, 108, 105, 122, 101, 45, 115, 112, 97, 99, 101] (TShape.mk 0 1 false)) [116, 114, 97, 110, 115, 108, 97, 116, 101] (TShape.mk 3 3 false))) (k := [98, 111, 111, 108, 101, 97, 110]) (TShape.mk 1 1 false) ?_
  refine l_build ?_
  refine l_mput keyS (ev := (fun v => .agg (c_TShape v))) (m := (mput (mput (mput (mput (mput (mput (mput (mput (mput (mput (mput (mput (mput (mput (mput (mput (mput (mput [] [108, 97, 115, 116] (TShape.mk 0 0 false)) [112, 111, 115, 105, 116, 105, 111, 110] (TShape.mk 0 0 false)) [99, 111, 117, 110, 116] (TShape.mk 1 1 true)) [105, 100] (TShape.mk 1 1 false)) [108, 111, 99, 97, 108, 45, 110, 97, 109, 101] (TShape.mk 0 1 true)) [110, 97, 109, 101, 115, 112, 97, 99, 101, 45, 117, 114, 105] (TShape.mk 0 1 true)) [110, 97, 109, 101] (TShape.mk 0 1 true)) [115, 116, 114, 105, 110, 103] (TShape.mk 0 1 false)) [99, 111, 110, 99, 97, 116] (TShape.mk 2 1048576 false)) [115, 116, 97, 114, 116, 115, 45, 119, 105, 116, 104] (TShape.mk 2 2 false)) [99, 111, 110, 116, 97, 105, 110, 115] (TShape.mk 2 2 false)) [115, 117, 98, 115, 116, 114, 105, 110, 103, 45, 98, 101, 102, 111, 114, 101] (TShape.mk 2 2 false)) [115, 117, 98, 115, 116, 114, 105, 110, 103, 45, 97, 102, 116, 101, 114] (TShape.mk 2 2 false)) [115, 117, 98, 115, 116, 114, 105, 110, 103] (TShape.mk 2 3 false)) [115, 116, 114, 105, 110, 103, 45, 108, 101, 110, 103, 116, 104] (TShape.mk 0 1 false)) [110, 111, 114, 109, 97, 108, 105, 122, 101, 45, 115, 112, 97, 99, 101] (TShape.mk 0 1 false)) [116, 114, 97, 110, 115, 108, 97, 116, 101] (TShape.mk 3 3 false)) [98, 111, 111, 108, 101, 97, 110] (TShape.mk 1 1 false))) (k := [110, 111, 116]) (TShape.mk 1 1 false) ?_
  refine l_build ?_
  refine l_mput keyS (ev := (fun v => .agg (c_TShape v))) (m := (mput (mput (mput (mput (mput (mput (mput (mput (mput (mput (mput (mput (mput (mput (mput (mput (mput (mput (mput [] [108, 97, 115, 116] (TShape.mk 0 0 false)) [112, 111, 115, 105, 116, 105, 111, 110] (TShape.mk 0 0 false)) [99, 111, 117, 110, 116] (TShape.mk 1 1 true)) [105, 100] (TShape.mk 1 1 false)) [108, 111, 99, 97, 108, 45, 110, 97, 109, 101] (TShape.mk 0 1 true)) [110, 97, 109, 101, 115, 112, 97, 99, 101, 45, 117, 114, 105] (TShape.mk 0 1 true)) [110, 97, 109, 101] (TShape.mk 0 1 true)) [115, 116, 114, 105, 110, 103] (TShape.mk 0 1 false)) [99, 111, 110, 99, 97, 116] (TShape.mk 2 1048576 false)) [115, 116, 97, 114, 116, 115, 45, 119, 105, 116, 104] (TShape.mk 2 2 false)) [99, 111, 110, 116, 97, 105, 110, 115] (TShape.mk 2 2 false)) [115, 117, 98, 115, 116, 114, 105, 110, 103, 45, 98, 101, 102, 111, 114, 101] (TShape.mk 2 2 false)) [115, 117, 98, 115, 116, 114, 105, 110, 103, 45, 97, 102, 116, 101, 114] (TShape.mk 2 2 false)) [115, 117, 98, 115, 116, 114, 105, 110, 103] (TShape.mk 2 3 false)) [115, 116, 114, 105, 110, 103, 45, 108, 101, 110, 103, 116, 104] (TShape.mk 0 1 false)) [110, 111, 114, 109, 97, 108, 105, 122, 101, 45, 115, 112, 97, 99, 101] (TShape.mk 0 1 false)) [116, 114, 97, 110, 115, 108, 97, 116, 101] (TShape.mk 3 3 false)) [98, 111, 111, 108, 101, 97, 110] (TShape.mk 1 1 false)) [110, 111, 116] (TShape.mk 1 1 false))) (k := [116, 114, 117, 101]) (TShape.mk 0 0 false) ?_
  refine l_build ?_
  refine l_mput keyS (ev := (fun v => .agg (c_TShape v))) (m := (mput (mput (mput (mput (mput (mput (mput (mput (mput (mput (mput (mput (mput (mput (mput (mput (mput (mput (mput (mput [] [108, 97, 115, 116] (TShape.mk 0 0 false)) [112, 111, 115, 105, 116, 105, 111, 110] (TShape.mk 0 0 false)) [99, 111, 117, 110, 116] (TShape.mk 1 1 true)) [105, 100] (TShape.mk 1 1 false)) [108, 111, 99, 97, 108, 45, 110, 97, 109, 101] (TShape.mk 0 1 true)) [110, 97, 109, 101, 115, 112, 97, 99, 101, 45, 117, 114, 105] (TShape.mk 0 1 true)) [110, 97, 109, 101] (TShape.mk 0 1 true)) [115, 116, 114, 105, 110, 103] (TShape.mk 0 1 false)) [99, 111, 110, 99, 97, 116] (TShape.mk 2 1048576 false)) [115, 116, 97, 114, 116, 115, 45, 119, 105, 116, 104] (TShape.mk 2 2 false)) [99, 111, 110, 116, 97, 105, 110, 115] (TShape.mk 2 2 false)) [115, 117, 98, 115, 116, 114, 105, 110, 103, 45, 98, 101, 102, 111, 114, 101] (TShape.mk 2 2 false)) [115, 117, 98, 115, 116, 114, 105, 110, 103, 45, 97, 102, 116, 101, 114] (TShape.mk 2 2 false)) [115, 117, 98, 115, 116, 114, 105, 110, 103] (TShape.mk 2 3 false)) [115, 116, 114, 105, 110, 103, 45, 108, 101, 110, 103, 116, 104] (TShape.mk 0 1 false)) [110, 111, 114, 109, 97, 108, 105, 122, 101, 45, 115, 112, 97, 99, 101] (TShape.mk 0 1 false)) [116, 114, 97, 110, 115, 108, 97, 116, 101] (TShape.mk 3 3 false)) [98, 111, 111, 108, 101, 97, 110] (TShape.mk 1 1 false)) [110, 111, 116] (TShape.mk 1 1 false)) [116, 114, 117, 101] (TShape.mk 0 0 false))) (k := [102, 97, 108, 115, 101]) (TShape.mk 0 0 false) ?_
  refine l_build ?_
  refine l_mput keyS (ev := (fun v => .agg (c_TShape v))) (m := (mput (mput (mput (mput (mput (mput (mput (mput (mput (mput (mput (mput (mput (mput (mput (mput (mput (mput (mput (mput (mput [] [108, 97, 115, 116] (TShape.mk 0 0 false)) [112, 111, 115, 105, 116, 105, 111, 110] (TShape.mk 0 0 false)) [99, 111, 117, 110, 116] (TShape.mk 1 1 true)) [105, 100] (TShape.mk 1 1 false)) [108, 111, 99, 97, 108, 45, 110, 97, 109, 101] (TShape.mk 0 1 true)) [110, 97, 109, 101, 115, 112, 97, 99, 101, 45, 117, 114, 105] (TShape.mk 0 1 true)) [110, 97, 109, 101] (TShape.mk 0 1 true)) [115, 116, 114, 105, 110, 103] (TShape.mk 0 1 false)) [99, 111, 110, 99, 97, 116] (TShape.mk 2 1048576 false)) [115, 116, 97, 114, 116, 115, 45, 119, 105, 116, 104] (TShape.mk 2 2 false)) [99, 111, 110, 116, 97, 105, 110, 115] (TShape.mk 2 2 false)) [115, 117, 98, 115, 116, 114, 105, 110, 103, 45, 98, 101, 102, 111, 114, 101] (TShape.mk 2 2 false)) [115, 117, 98, 115, 116, 114, 105, 110, 103, 45, 97, 102, 116, 101, 114] (TShape.mk 2 2 false)) [115, 117, 98, 115, 116, 114, 105, 110, 103] (TShape.mk 2 3 false)) [115, 116, 114, 105, 110, 103, 45, 108, 101, 110, 103, 116, 104] (TShape.mk 0 1 false)) [110, 111, 114, 109, 97, 108, 105, 122, 101, 45, 115, 112, 97, 99, 101] (TShape.mk 0 1 false)) [116, 114, 97, 110, 115, 108, 97, 116, 101] (TShape.mk 3 3 false)) [98, 111, 111, 108, 101, 97, 110] (TShape.mk 1 1 false)) [110, 111, 116] (TShape.mk 1 1 false)) [116, 114, 117, 101] (TShape.mk 0 0 false)) [102, 97, 108, 115, 101] (TShape.mk 0 0 false))) (k := [108, 97, 110, 103]) (TShape.mk 1 1 false) ?_
  refine l_build ?_
  refine l_mput keyS (ev := (fun v => .agg (c_TShape v))) (m := (mput (mput (mput (mput (mput (mput (mput (mput (mput (mput (mput (mput (mput (mput (mput (mput (mput (mput (mput (mput (mput (mput [] [108, 97, 115, 116] (TShape.mk 0 0 false)) [112, 111, 115, 105, 116, 105, 111, 110] (TShape.mk 0 0 false)) [99, 111, 117, 110, 116] (TShape.mk 1 1 true)) [105, 100] (TShape.mk 1 1 false)) [108, 111, 99, 97, 108, 45, 110, 97, 109, 101] (TShape.mk 0 1 true)) [110, 97, 109, 101, 115, 112, 97, 99, 101, 45, 117, 114, 105] (TShape.mk 0 1 true)) [110, 97, 109, 101] (TShape.mk 0 1 true)) [115, 116, 114, 105, 110, 103] (TShape.mk 0 1 false)) [99, 111, 110, 99, 97, 116] (TShape.mk 2 1048576 false)) [115, 116, 97, 114, 116, 115, 45, 119, 105, 116, 104] (TShape.mk 2 2 false)) [99, 111, 110, 116, 97, 105, 110, 115] (TShape.mk 2 2 false)) [115, 117, 98, 115, 116, 114, 105, 110, 103, 45, 98, 101, 102, 111, 114, 101] (TShape.mk 2 2 false)) [115, 117, 98, 115, 116, 114, 105, 110, 103, 45, 97, 102, 116, 101, 114] (TShape.mk 2 2 false)) [115, 117, 98, 115, 116, 114, 105, 110, 103] (TShape.mk 2 3 false)) [115, 116, 114, 105, 110, 103, 45, 108, 101, 110, 103, 116, 104] (TShape.mk 0 1 false)) [110, 111, 114, 109, 97, 108, 105, 122, 101, 45, 115, 112, 97, 99, 101] (TShape.mk 0 1 false)) [116, 114, 97, 110, 115, 108, 97, 116, 101] (TShape.mk 3 3 false)) [98, 111, 111, 108, 101, 97, 110] (TShape.mk 1 1 false)) [110, 111, 116] (TShape.mk 1 1 false)) [116, 114, 117, 101] (TShape.mk 0 0 false)) [102, 97, 108, 115, 101] (TShape.mk 0 0 false)) [108, 97, 110, 103] (TShape.mk 1 1 false))) (k := [110, 117, 109, 98, 101, 114]) (TShape.mk 0 1 false) ?_
  refine l_build ?_
  refine l_mput keyS (ev := (fun v => .agg (c_TShape v))) (m := (mput (mput (mput (mput (mput (mput (mput (mput (mput (mput (mput (mput (mput (mput (mput (mput (mput (mput (mput (mput (mput (mput (mput [] [108, 97, 115, 116] (TShape.mk 0 0 false)) [112, 111, 115, 105, 116, 105, 111, 110] (TShape.mk 0 0 false)) [99, 111, 117, 110, 116] (TShape.mk 1 1 true)) [105, 100] (TShape.mk 1 1 false)) [108, 111, 99, 97, 108, 45, 110, 97, 109, 101] (TShape.mk 0 1 true)) [110, 97, 109, 101, 115, 112, 97, 99, 101, 45, 117, 114, 105] (TShape.mk 0 1 true)) [110, 97, 109, 101] (TShape.mk 0 1 true)) [115, 116, 114, 105, 110, 103] (TShape.mk 0 1 false)) [99, 111, 110, 99, 97, 116] (TShape.mk 2 1048576 false)) [115, 116, 97, 114, 116, 115, 45, 119, 105, 116, 104] (TShape.mk 2 2 false)) [99, 111, 110, 116, 97, 105, 110, 115] (TShape.mk 2 2 false)) [115, 117, 98, 115, 116, 114, 105, 110, 103, 45, 98, 101, 102, 111, 114, 101] (TShape.mk 2 2 false)) [115, 117, 98, 115, 116, 114, 105, 110, 103, 45, 97, 102, 116, 101, 114] (TShape.mk 2 2 false)) [115, 117, 98, 115, 116, 114, 105, 110, 103] (TShape.mk 2 3 false)) [115, 116, 114, 105, 110, 103, 45, 108, 101, 110, 103, 116, 104] (TShape.mk 0 1 false)) [110, 111, 114, 109, 97, 108, 105, 122, 101, 45, 115, 112, 97, 99, 101] (TShape.mk 0 1 false)) [116, 114, 97, 110, 115, 108, 97, 116, 101] (TShape.mk 3 3 false)) [98, 111, 111, 108, 101, 97, 110] (TShape.mk 1 1 false)) [110, 111, 116] (TShape.mk 1 1 false)) [116, 114, 117, 101] (TShape.mk 0 0 false)) [102, 97, 108, 115, 101] (TShape.mk 0 0 false)) [108, 97, 110, 103] (TShape.mk 1 1 false)) [110, 117, 109, 98, 101, 114] (TShape.mk 0 1 false))) (k := [115, 117, 109]) (TShape.mk 1 1 true) ?_
  refine l_build ?_
  refine l_mput keyS (ev := (fun v => .agg (c_TShape v))) (m := (mput (mput (mput (mput (mput (mput (mput (mput (mput (mput (mput (mput (mput (mput (mput (mput (mput (mput (mput (mput (mput (mput (mput (mput [] [108, 97, 115, 116] (TShape.mk 0 0 false)) [112, 111, 115, 105, 116, 105, 111, 110] (TShape.mk 0 0 false)) [99, 111, 117, 110, 116] (TShape.mk 1 1 true)) [105, 100] (TShape.mk 1 1 false)) [108, 111, 99, 97, 108, 45, 110, 97, 109, 101] (TShape.mk 0 1 true)) [110, 97, 109, 101, 115, 112, 97, 99, 101, 45, 117, 114, 105] (TShape.mk 0 1 true)) [110, 97, 109, 101] (TShape.mk 0 1 true)) [115, 116, 114, 105, 110, 103] (TShape.mk 0 1 false)) [99, 111, 110, 99, 97, 116] (TShape.mk 2 1048576 false)) [115, 116, 97, 114, 116, 115, 45, 119, 105, 116, 104] (TShape.mk 2 2 false)) [99, 111, 110, 116, 97, 105, 110, 115] (TShape.mk 2 2 false)) [115, 117, 98, 115, 116, 114, 105, 110, 103, 45, 98, 101, 102, 111, 114, 101] (TShape.mk 2 2 false)) [115, 117, 98, 115, 116, 114, 105, 110, 103, 45, 97, 102, 116, 101, 114] (TShape.mk 2 2 false)) [115, 117, 98, 115, 116, 114, 105, 110, 103] (TShape.mk 2 3 false)) [115, 116, 114, 105, 110, 103, 45, 108, 101, 110, 103, 116, 104] (TShape.mk 0 1 false)) [110, 111, 114, 109, 97, 108, 105, 122, 101, 45, 115, 112, 97, 99, 101] (TShape.mk 0 1 false)) [116, 114, 97, 110, 115, 108, 97, 116, 101] (TShape.mk 3 3 false)) [98, 111, 111, 108, 101, 97, 110] (TShape.mk 1 1 false)) [110, 111, 116] (TShape.mk 1 1 false)) [116, 114, 117, 101] (TShape.mk 0 0 false)) [102, 97, 108, 115, 101] (TShape.mk 0 0 false)) [108, 97, 110, 103] (TShape.mk 1 1 false)) [110, 117, 109, 98, 101, 114] (TShape.mk 0 1 false)) [115, 117, 109] (TShape.mk 1 1 true))) (k := [102, 108, 111, 111, 114]) (TShape.mk 1 1 false) ?_
  refine l_build ?_
  refine l_mput keyS (ev := (fun v => .agg (c_TShape v))) (m := (mput (mput (mput (mput (mput (mput (mput (mput (mput (mput (mput (mput (mput (mput (mput (mput (mput (mput (mput (mput (mput (mput (mput (mput (mput [] [108, 97, 115, 116] (TShape.mk 0 0 false)) [112, 111, 115, 105, 116, 105, 111, 110] (TShape.mk 0 0 false)) [99, 111, 117, 110, 116] (TShape.mk 1 1 true)) [105, 100] (TShape.mk 1 1 false)) [108, 111, 99, 97, 108, 45, 110, 97, 109, 101] (TShape.mk 0 1 true)) [110, 97, 109, 101, 115, 112, 97, 99, 101, 45, 117, 114, 105] (TShape.mk 0 1 true)) [110, 97, 109, 101] (TShape.mk 0 1 true)) [115, 116, 114, 105, 110, 103] (TShape.mk 0 1 false)) [99, 111, 110, 99, 97, 116] (TShape.mk 2 1048576 false)) [115, 116, 97, 114, 116, 115, 45, 119, 105, 116, 104] (TShape.mk 2 2 false)) [99, 111, 110, 116, 97, 105, 110, 115] (TShape.mk 2 2 false)) [115, 117, 98, 115, 116, 114, 105, 110, 103, 45, 98, 101, 102, 111, 114, 101] (TShape.mk 2 2 false)) [115, 117, 98, 115, 116, 114, 105, 110, 103, 45, 97, 102, 116, 101, 114] (TShape.mk 2 2 false)) [115, 117, 98, 115, 116, 114, 105, 110, 103] (TShape.mk 2 3 false)) [115, 116, 114, 105, 110, 103, 45, 108, 101, 110, 103, 116, 104] (TShape.mk 0 1 false)) [110, 111, 114, 109, 97, 108, 105, 122, 101, 45, 115, 112, 97, 99, 101] (TShape.mk 0 1 false)) [116, 114, 97, 110, 115, 108, 97, 116, 101] (TShape.mk 3 3 false)) [98, 111, 111, 108, 101, 97, 110] (TShape.mk 1 1 false)) [110, 111, 116] (TShape.mk 1 1 false)) [116, 114, 117, 101] (TShape.mk 0 0 false)) [102, 97, 108, 115, 101] (TShape.mk 0 0 false)) [108, 97, 110, 103] (TShape.mk 1 1 false)) [110, 117, 109, 98, 101, 114] (TShape.mk 0 1 false)) [115, 117, 109] (TShape.mk 1 1 true)) [102, 108, 111, 111, 114] (TShape.mk 1 1 false))) (k := [99, 101, 105, 108, 105, 110, 103]) (TShape.mk 1 1 false) ?_
  refine l_build ?_
  refine l_mput keyS (ev := (fun v => .agg (c_TShape v))) (m := (mput (mput (mput (mput (mput (mput (mput (mput (mput (mput (mput (mput (mput (mput (mput (mput (mput (mput (mput (mput (mput (mput (mput (mput (mput (mput [] [108, 97, 115, 116] (TShape.mk 0 0 false)) [112, 111, 115, 105, 116, 105, 111, 110] (TShape.mk 0 0 false)) [99, 111, 117, 110, 116] (TShape.mk 1 1 true)) [105, 100] (TShape.mk 1 1 false)) [108, 111, 99, 97, 108, 45, 110, 97, 109, 101] (TShape.mk 0 1 true)) [110, 97, 109, 101, 115, 112, 97, 99, 101, 45, 117, 114, 105] (TShape.mk 0 1 true)) [110, 97, 109, 101] (TShape.mk 0 1 true)) [115, 116, 114, 105, 110, 103] (TShape.mk 0 1 false)) [99, 111, 110, 99, 97, 116] (TShape.mk 2 1048576 false)) [115, 116, 97, 114, 116, 115, 45, 119, 105, 116, 104] (TShape.mk 2 2 false)) [99, 111, 110, 116, 97, 105, 110, 115] (TShape.mk 2 2 false)) [115, 117, 98, 115, 116, 114, 105, 110, 103, 45, 98, 101, 102, 111, 114, 101] (TShape.mk 2 2 false)) [115, 117, 98, 115, 116, 114, 105, 110, 103, 45, 97, 102, 116, 101, 114] (TShape.mk 2 2 false)) [115, 117, 98, 115, 116, 114, 105, 110, 103] (TShape.mk 2 3 false)) [115, 116, 114, 105, 110, 103, 45, 108, 101, 110, 103, 116, 104] (TShape.mk 0 1 false)) [110, 111, 114, 109, 97, 108, 105, 122, 101, 45, 115, 112, 97, 99, 101] (TShape.mk 0 1 false)) [116, 114, 97, 110, 115, 108, 97, 116, 101] (TShape.mk 3 3 false)) [98, 111, 111, 108, 101, 97, 110] (TShape.mk 1 1 false)) [110, 111, 116] (TShape.mk 1 1 false)) [116, 114, 117, 101] (TShape.mk 0 0 false)) [102, 97, 108, 115, 101] (TShape.mk 0 0 false)) [108, 97, 110, 103] (TShape.mk 1 1 false)) [110, 117, 109, 98, 101, 114] (TShape.mk 0 1 false)) [115, 117, 109] (TShape.mk 1 1 true)) [102, 108, 111, 111, 114] (TShape.mk 1 1 false)) [99, 101, 105, 108, 105, 110, 103] (TShape.mk 1 1 false))) (k := [114, 111, 117, 110, 100]) (TShape.mk 1 1 false) ?_
  refine l_move ?_
  refine l_assign ?_
  refine k_nil ?_
  refine f_t ?_
  refine k_retc ?_
  apply k_ret [(1001, 1)] hB h
theorem strconv_FormatInt_ok {i base : Int} {r : Str} (h : strconv_FormatInt i base = some r) : XSpec Tryz.prog 182 [I i, I base] [] (S r) [] [] := by
  unfold strconv_FormatInt at h
  cases e : decide (base = 10 ∧ -9223372036854775808 ≤ i ∧ i ≤ 9223372036854775807) with
  | false => rw [e] at h; cases h
  | true =>
    rw [e] at h; cases h
    obtain ⟨rfl, h1, h2⟩ := of_decide_eq_true e
    exact fmt_x Tryz.fmt182 (g := fmtG) (j := 2) (by kernel_rfl) rfl (fun es w => enters_of Tryz.func182 (by kernel_rfl) rfl es w) i ⟨h1, h2⟩
theorem value_AsText_ok {d : (Option TDoc)} {v_ : TValue} {r : Str} (h : value_AsText d v_ = some r) : XSpec Tryz.prog 140 [oP c_TDoc d, .agg (c_TValue v_)] [] (S r) [] [] := by
  unfold value_AsText at h
  refine X_of_run Tryz.hU Tryz.func140 (fun _ _ _ hB => ?_)
  refine k_seq ?_
  refine k_reg ?_
  refine l_box ?_
  refine l_assign ?_
  refine k_nil ?_
  refine f_t ?_
  refine k_seq ?_
  refine k_block ?_
  refine k_seq ?_
  refine k_cut (fun q1 => (.normal, ⟨[(0, oP c_TDoc d), (3, .ptr 1003 0), (5, B q1)], [(1003, .box 40 [I v_.Kind, .vs v_.Set.length (F c_TPoint v_.Set), B v_.Bool_, I v_.N, B v_.NaN, S v_.Text])], []⟩)) h (fun t h => ?_) (fun q1 h => ?_)
  · refine k_reg ?_
    refine l_fieldAddr ?_
    refine l_load ?_
    refine l_cmp ?_
    refine l_move ?_
    refine l_split h (fun _ h => ?_) (fun _ h => ?_)
    · refine l_on ?_
      refine l_fieldAddr ?_
      refine l_on ?_
      refine l_load ?_
      refine l_on ?_
      refine l_len ?_
      refine l_on ?_
      refine l_cmp ?_
      refine l_pick_true ?_
      refine l_assign ?_
      refine k_nil ?_
      exact k_out [(1003, 1003)] hB h
    refine l_off ?_
    refine l_off ?_
    refine l_off ?_
    refine l_off ?_
    refine l_pick_false ?_
    refine l_assign ?_
    refine k_nil ?_
    exact k_out [(1003, 1003)] hB h
  refine f_t ?_
  refine k_if h (fun _ h => ?_) (fun _ h => ?_)
  · refine k_seq ?_
    refine k_reg ?_
    refine l_move ?_
    refine l_fieldAddr ?_
    refine l_load ?_
    cases h
  refine k_seq ?_
  refine k_cut (fun q3 => (.normal, ⟨[(3, .ptr 1003 0), (21, B q3)], [(1003, .box 40 [I v_.Kind, .vs v_.Set.length (F c_TPoint v_.Set), B v_.Bool_, I v_.N, B v_.NaN, S v_.Text])], []⟩)) h (fun t h => ?_) (fun q3 h => ?_)
  · refine k_reg ?_
    refine l_fieldAddr ?_
    refine l_load ?_
    refine l_cmp ?_
    refine l_move ?_
    refine l_split h (fun _ h => ?_) (fun _ h => ?_)
    · refine l_on ?_
      refine l_fieldAddr ?_
      refine l_on ?_
      refine l_load ?_
      refine l_pick_true ?_
      refine l_assign ?_
      refine k_nil ?_
      exact k_out [(1003, 1003)] hB h
    refine l_off ?_
    refine l_off ?_
    refine l_pick_false ?_
    refine l_assign ?_
    refine k_nil ?_
    exact k_out [(1003, 1003)] hB h
  refine f_t ?_
  refine k_if h (fun _ h => ?_) (fun _ h => ?_)
  · refine k_seq ?_
    refine k_reg ?_
    refine l_assign ?_
    refine k_nil ?_
    refine f_t ?_
    refine k_retc ?_
    refine f_br ?_
    refine f_tr ?_
    apply k_ret [] hB h
  refine k_seq ?_
  refine k_reg ?_
  refine l_fieldAddr ?_
  refine l_load ?_
  refine l_cmp ?_
  refine l_assign ?_
  refine k_nil ?_
  refine f_t ?_
  refine k_if h (fun _ h => ?_) (fun _ h => ?_)
  · refine k_seq ?_
    refine k_reg ?_
    refine l_assign ?_
    refine k_nil ?_
    refine f_t ?_
    refine k_retc ?_
    refine f_br ?_
    refine f_tr ?_
    apply k_ret [] hB h
  refine k_seq ?_
  refine k_reg ?_
  refine l_fieldAddr ?_
  refine l_load ?_
  refine l_cmp ?_
  refine l_move ?_
  refine l_split h (fun _ h => ?_) (fun _ h => ?_)
  · refine l_on ?_
    refine l_fieldAddr ?_
    refine l_on ?_
    refine l_load ?_
    refine l_pick_true ?_
    refine l_assign ?_
    refine k_nil ?_
    refine f_t ?_
    refine k_if h (fun _ h => ?_) (fun _ h => ?_)
    · refine k_seq ?_
      refine k_reg ?_
      refine l_assign ?_
      refine k_nil ?_
      refine f_t ?_
      refine k_retc ?_
      refine f_br ?_
      refine f_tr ?_
      apply k_ret [] hB h
    refine k_seq ?_
    refine k_reg ?_
    refine l_fieldAddr ?_
    refine l_load ?_
    refine l_cmp ?_
    refine l_assign ?_
    refine k_nil ?_
    refine f_t ?_
    refine k_if h (fun _ h => ?_) (fun _ h => ?_)
    · refine k_seq ?_
      refine k_reg ?_
      refine l_fieldAddr ?_
      refine l_load ?_
      refine l_call h (fun _ => strconv_FormatInt_ok) (fun v4 _ h => ?_)
      refine l_assign ?_
      refine k_nil ?_
      refine f_t ?_
      refine k_retc ?_
      refine f_br ?_
      refine f_tr ?_
      apply k_ret [] hB h
    refine k_seq ?_
    refine k_reg ?_
    refine l_fieldAddr ?_
    refine l_load ?_
    refine l_cmp ?_
    refine l_assign ?_
    refine k_nil ?_
    refine f_t ?_
    refine k_if h (fun _ h => ?_) (fun _ h => ?_)
    · refine k_seq ?_
      refine k_reg ?_
      refine l_fieldAddr ?_
      refine l_load ?_
      refine l_assign ?_
      refine k_nil ?_
      refine f_t ?_
      refine k_retc ?_
      refine f_br ?_
      refine f_tr ?_
      apply k_ret [] hB h
    refine k_skip ?_
    refine f_b ?_
    refine f_t ?_
    refine k_seq ?_
    refine k_reg ?_
    refine l_assign ?_
    refine k_nil ?_
    refine f_t ?_
    refine k_retc ?_
    apply k_ret [] hB h
  refine l_off ?_
  refine l_off ?_
  refine l_pick_false ?_
  refine l_assign ?_
  refine k_nil ?_
  refine f_t ?_
  refine k_f ?_
  refine k_seq ?_
  refine k_reg ?_
  refine l_fieldAddr ?_
  refine l_load ?_
  refine l_cmp ?_
  refine l_assign ?_
  refine k_nil ?_
  refine f_t ?_
  refine k_if h (fun _ h => ?_) (fun _ h => ?_)
  · refine k_seq ?_
    refine k_reg ?_
    refine l_fieldAddr ?_
    refine l_load ?_
    refine l_call h (fun _ => strconv_FormatInt_ok) (fun v5 _ h => ?_)
    refine l_assign ?_
    refine k_nil ?_
    refine f_t ?_
    refine k_retc ?_
    refine f_br ?_
    refine f_tr ?_
    apply k_ret [] hB h
  refine k_seq ?_
  refine k_reg ?_
  refine l_fieldAddr ?_
  refine l_load ?_
  refine l_cmp ?_
  refine l_assign ?_
  refine k_nil ?_
  refine f_t ?_
  refine k_if h (fun _ h => ?_) (fun _ h => ?_)
  · refine k_seq ?_
    refine k_reg ?_
    refine l_fieldAddr ?_
    refine l_load ?_
    refine l_assign ?_
    refine k_nil ?_
    refine f_t ?_
    refine k_retc ?_
    refine f_br ?_
    refine f_tr ?_
    apply k_ret [] hB h
  refine k_skip ?_
  refine f_b ?_
  refine f_t ?_
  refine k_seq ?_
  refine k_reg ?_
  refine l_assign ?_
  refine k_nil ?_
  refine f_t ?_
  refine k_retc ?_
  apply k_ret [] hB h
theorem call_caller_text_ok {c : TCaller} {n : Int} {r : Str} (h : call_caller_text c n = some r) : XSpec Tryz.prog 95 [.agg (c_TCaller c), I n] [] (S r) [] [] := by
  unfold call_caller_text at h
  refine X_of_run Tryz.hU Tryz.func95 (fun _ _ _ hB => ?_)
  refine k_seq ?_
  refine k_reg ?_
  refine l_box ?_
  refine l_assign ?_
  refine k_nil ?_
  refine f_t ?_
  refine k_seq ?_
  refine k_seq ?_
  refine k_reg ?_
  refine l_move ?_
  refine l_fieldAddr ?_
  refine l_load ?_
  refine l_len ?_
  refine l_cmp ?_
  refine k_nil ?_
  refine f_t ?_
  refine k_if h (fun _ h => ?_) (fun _ h => ?_)
  · refine k_seq ?_
    refine k_mix [] (.q 0 (.q 1 (.q 2 (.q 3 (.q 4 (.q 5 (.q 6 (.q 7 (.e 8 (.q 9 (.done))))))))))) hm ?_
    refine gq ?_
    refine n_fieldAddr ?_
    refine gq ?_
    refine n_load ?_
    refine gq ?_
    cases h
  refine k_skip ?_
  refine f_t ?_
  refine k_seq ?_
  refine k_mix [] (.q 0 (.q 1 (.q 2 (.q 3 (.q 4 (.q 5 (.q 6 (.q 7 (.q 8 (.q 9 (.e 10 (.q 11 (.done))))))))))))) hm ?_
  refine gq ?_
  refine n_fieldAddr ?_
  refine gq ?_
  refine n_load ?_
  refine gq ?_
  refine n_deref h (fun v2 _ h => ?_)
  refine gq ?_
  refine n_fieldAddr ?_
  refine gq ?_
  refine n_load ?_
  refine gq ?_
  refine n_fieldAddr ?_
  refine gq ?_
  refine n_load ?_
  refine gq ?_
  refine n_move ?_
  refine gq ?_
  refine n_at h (fun v3 _ h => ?_)
  refine gq ?_
  refine n_load_agg ?_
  refine ge ?_
  refine n_call h (fun _ => value_AsText_ok) (fun v4 _ h => ?_)
  refine gq ?_
  refine n_assign ?_
  refine m_nil ?_
  refine f_t ?_
  refine k_retc ?_
  apply k_ret [] hB h
theorem strings_indexFunc_ok {s : Str} {f : (Int → Option Bool)} {truth : Bool} {fk_f : Nat} {fc_f : List AV} (hf_f : ∀ {x0 : Int} {r : Bool}, f x0 = some r → XSpec Tryz.prog fk_f ((.pl (.int .i32 x0)) :: fc_f) [] (B r) [] []) (hc_f : AV.closedL fc_f = true ∧ AV.onlyL [] fc_f = true) {r : Int} (h : strings_indexFunc s f truth = some r) : XSpec Tryz.prog 242 [S s, .fn (.func fk_f) [] fc_f, B truth] [] (I r) [] [] := by
  unfold strings_indexFunc at h
  refine X_of_run Tryz.hU Tryz.func242 (fun _ _ _ hB => ?_)
  refine k_seq ?_
  refine k_reg ?_
  refine l_assign ?_
  refine k_nil ?_
  refine f_t ?_
  refine k_seq ?_
  refine k_seq ?_
  refine k_reg ?_
  refine l_move ?_
  refine l_range ?_
  refine k_nil ?_
  refine f_t ?_
  refine k_block ?_
  refine k_loop (fun y1 => ⟨[(1, .fn (.func fk_f) [] fc_f), (2, B truth), (10, .it 1010)], [(1010, .siter ⟨s.toArray⟩ y1)], []⟩) (Sum.elim (fun q3 => (.ret, ⟨[(6, I q3)], [], []⟩)) (fun q4 => (.exit 0, ⟨[], [], []⟩))) [(1010, 1010)] hB h (fun y1 t h => ?_) (fun q h => ?_)
  · unfold strings_indexFunc_b1 at h
    refine k_seq ?_
    refine k_reg ?_
    refine l_next h (fun _ h => ?_) (fun _ h => ?_)
    · refine l_extract ?_
      refine k_nil ?_
      refine f_t ?_
      refine k_seq ?_
      refine k_t ?_
      refine k_skip ?_
      refine f_t ?_
      refine k_block ?_
      refine k_seq ?_
      refine k_reg ?_
      refine l_extract ?_
      refine l_extract ?_
      refine l_assign ?_
      refine l_assign ?_
      refine k_nil ?_
      refine f_t ?_
      refine k_seq ?_
      refine k_reg ?_
      refine l_move ?_
      refine l_move ?_
      refine l_callF hc_f h (fun _ => hf_f) (fun v2 _ h => ?_)
      refine l_move ?_
      refine l_bool ?_
      refine k_nil ?_
      refine f_t ?_
      refine k_if h (fun _ h => ?_) (fun _ h => ?_)
      · refine k_seq ?_
        refine k_reg ?_
        refine l_move ?_
        refine l_assign ?_
        refine k_nil ?_
        refine f_t ?_
        refine k_retc ?_
        refine f_br ?_
        exact k_brk [] hB h
      refine k_skip ?_
      refine f_b ?_
      exact k_next [(1010, 1010)] hB h
    refine l_extract ?_
    refine k_nil ?_
    refine f_t ?_
    refine k_seq ?_
    refine k_f ?_
    refine k_exit ?_
    refine f_te ?_
    exact k_brk [] hB h
  rcases q with q3 | q4
  · dsimp only [Sum.elim] at h ⊢
    refine f_br ?_
    refine f_tr ?_
    apply k_ret [] hB h
  dsimp only [Sum.elim] at h ⊢
  refine f_be ?_
  refine f_t ?_
  refine k_seq ?_
  refine k_reg ?_
  refine l_assign ?_
  refine k_nil ?_
  refine f_t ?_
  refine k_retc ?_
  apply k_ret [] hB h
theorem strings_IndexFunc_ok {s : Str} {f : (Int → Option Bool)} {fk_f : Nat} {fc_f : List AV} (hf_f : ∀ {x0 : Int} {r : Bool}, f x0 = some r → XSpec Tryz.prog fk_f ((.pl (.int .i32 x0)) :: fc_f) [] (B r) [] []) (hc_f : AV.closedL fc_f = true ∧ AV.onlyL [] fc_f = true) {r : Int} (h : strings_IndexFunc s f = some r) : XSpec Tryz.prog 216 [S s, .fn (.func fk_f) [] fc_f] [] (I r) [] [] := by
  unfold strings_IndexFunc at h
  refine X_of_run Tryz.hU Tryz.func216 (fun _ _ _ hB => ?_)
  refine k_seq ?_
  refine k_reg ?_
  refine l_assign ?_
  refine k_nil ?_
  refine f_t ?_
  refine k_seq ?_
  refine k_reg ?_
  refine l_move ?_
  refine l_move ?_
  refine l_call h (fun _ => strings_indexFunc_ok (fun h => hf_f h) hc_f) (fun v1 _ h => ?_)
  refine l_assign ?_
  refine k_nil ?_
  refine f_t ?_
  refine k_retc ?_
  apply k_ret [] hB h
theorem value_digits_c1_ok {c : Int} {r : Bool} (h : value_digits_c1 c = some r) : XSpec Tryz.prog 217 [.pl (.int .i32 c)] [] (B r) [] [] := by
  unfold value_digits_c1 at h
  refine X_of_run Tryz.hU Tryz.func217 (fun _ _ _ hB => ?_)
  refine k_seq ?_
  refine k_reg ?_
  refine l_assign ?_
  refine k_nil ?_
  refine f_t ?_
  refine k_seq ?_
  refine k_reg ?_
  refine l_move ?_
  refine l_cmp ?_
  refine l_move ?_
  refine l_split h (fun _ h => ?_) (fun _ h => ?_)
  · refine l_off ?_
    refine l_off ?_
    refine l_pick_true ?_
    refine l_assign ?_
    refine k_nil ?_
    refine f_t ?_
    refine k_retc ?_
    apply k_ret [] hB h
  refine l_on ?_
  refine l_move ?_
  refine l_on ?_
  refine l_cmp ?_
  refine l_pick_false ?_
  refine l_assign ?_
  refine k_nil ?_
  refine f_t ?_
  refine k_retc ?_
  apply k_ret [] hB h
theorem value_digits_ok {s : Str} {r : Bool} (h : value_digits s = some r) : XSpec Tryz.prog 183 [S s] [] (B r) [] [] := by
  unfold value_digits at h
  refine X_of_run Tryz.hU Tryz.func183 (fun _ _ _ hB => ?_)
  refine k_seq ?_
  refine k_reg ?_
  refine l_assign ?_
  refine k_nil ?_
  refine f_t ?_
  refine k_seq ?_
  refine k_reg ?_
  refine l_move ?_
  refine l_call h (fun _ => strings_IndexFunc_ok (fun h => value_digits_c1_ok h) ⟨rfl, rfl⟩) (fun v1 _ h => ?_)
  refine l_cmp ?_
  refine l_assign ?_
  refine k_nil ?_
  refine f_t ?_
  refine k_retc ?_
  apply k_ret [] hB h
theorem value_None_ok {r : TValue} (h : value_None = some r) : XSpec Tryz.prog 143 [] [] (.agg (c_TValue r)) [] [] := by
  unfold value_None at h
  refine X_of_run Tryz.hU Tryz.func143 (fun _ _ _ hB => ?_)
  refine k_seq ?_
  refine k_reg ?_
  refine l_alloc ?_
  refine k_nil ?_
  refine f_t ?_
  refine k_seq ?_
  refine k_reg ?_
  refine l_build ?_
  refine l_store_box ?_
  refine k_nil ?_
  refine f_t ?_
  refine k_retc ?_
  apply k_retN [] hB h
theorem strings_trimRightByte_ok {s : Str} {c : UInt8} {r : Str} (h : strings_trimRightByte s c = some r) : XSpec Tryz.prog 219 [S s, U c] [] (S r) [] [] := by
  unfold strings_trimRightByte at h
  refine X_of_run Tryz.hU Tryz.func219 (fun _ _ _ hB => ?_)
  refine k_seq ?_
  refine k_reg ?_
  refine l_assign ?_
  refine k_nil ?_
  refine f_t ?_
  refine k_seq ?_
  refine k_block ?_
  refine k_loop (fun y1 => ⟨[(0, S y1), (1, U c)], [], []⟩) (fun q4 => (.exit 0, ⟨[(0, S q4)], [], []⟩)) [] hB h (fun y1 t h => ?_) (fun q4 h => ?_)
  · unfold strings_trimRightByte_b1 at h
    refine k_seq ?_
    refine k_seq ?_
    refine k_reg ?_
    refine l_move ?_
    refine l_lens ?_
    refine l_cmp ?_
    refine l_move ?_
    refine l_split h (fun _ h => ?_) (fun _ h => ?_)
    · refine l_on ?_
      refine l_move ?_
      refine l_on ?_
      refine l_move ?_
      refine l_on ?_
      refine l_lens ?_
      refine l_on ?_
      refine l_subw ?_
      refine l_on ?_
      refine l_ats h (fun v2 _ h => ?_)
      refine l_on ?_
      refine l_move ?_
      refine l_on ?_
      refine l_cmp ?_
      refine l_pick_true ?_
      refine k_nil ?_
      refine f_t ?_
      refine k_if h (fun _ h => ?_) (fun _ h => ?_)
      · refine k_skip ?_
        refine f_t ?_
        refine k_block ?_
        refine k_reg ?_
        refine l_move ?_
        refine l_move ?_
        refine l_lens ?_
        refine l_subw ?_
        refine l_subs h (fun v3 _ h => ?_)
        refine l_assign ?_
        refine k_nil ?_
        refine f_b ?_
        exact k_next [] hB h
      refine k_exit ?_
      refine f_te ?_
      exact k_brk [] hB h
    refine l_off ?_
    refine l_off ?_
    refine l_off ?_
    refine l_off ?_
    refine l_off ?_
    refine l_off ?_
    refine l_off ?_
    refine l_pick_false ?_
    refine k_nil ?_
    refine f_t ?_
    refine k_f ?_
    refine k_exit ?_
    refine f_te ?_
    exact k_brk [] hB h
  refine f_be ?_
  refine f_t ?_
  refine k_seq ?_
  refine k_reg ?_
  refine l_move ?_
  refine l_assign ?_
  refine k_nil ?_
  refine f_t ?_
  refine k_retc ?_
  apply k_ret [] hB h
theorem strings_trimLeftByte_ok {s : Str} {c : UInt8} {r : Str} (h : strings_trimLeftByte s c = some r) : XSpec Tryz.prog 218 [S s, U c] [] (S r) [] [] := by
  unfold strings_trimLeftByte at h
  refine X_of_run Tryz.hU Tryz.func218 (fun _ _ _ hB => ?_)
  refine k_seq ?_
  refine k_reg ?_
  refine l_assign ?_
  refine k_nil ?_
  refine f_t ?_
  refine k_seq ?_
  refine k_block ?_
  refine k_loop (fun y1 => ⟨[(0, S y1), (1, U c)], [], []⟩) (fun q4 => (.exit 0, ⟨[(0, S q4)], [], []⟩)) [] hB h (fun y1 t h => ?_) (fun q4 h => ?_)
  · unfold strings_trimLeftByte_b1 at h
    refine k_seq ?_
    refine k_seq ?_
    refine k_reg ?_
    refine l_move ?_
    refine l_lens ?_
    refine l_cmp ?_
    refine l_move ?_
    refine l_split h (fun _ h => ?_) (fun _ h => ?_)
    · refine l_on ?_
      refine l_move ?_
      refine l_on ?_
      refine l_ats h (fun v2 _ h => ?_)
      refine l_on ?_
      refine l_move ?_
      refine l_on ?_
      refine l_cmp ?_
      refine l_pick_true ?_
      refine k_nil ?_
      refine f_t ?_
      refine k_if h (fun _ h => ?_) (fun _ h => ?_)
      · refine k_skip ?_
        refine f_t ?_
        refine k_block ?_
        refine k_reg ?_
        refine l_move ?_
        refine l_subs h (fun v3 _ h => ?_)
        refine l_assign ?_
        refine k_nil ?_
        refine f_b ?_
        exact k_next [] hB h
      refine k_exit ?_
      refine f_te ?_
      exact k_brk [] hB h
    refine l_off ?_
    refine l_off ?_
    refine l_off ?_
    refine l_off ?_
    refine l_pick_false ?_
    refine k_nil ?_
    refine f_t ?_
    refine k_f ?_
    refine k_exit ?_
    refine f_te ?_
    exact k_brk [] hB h
  refine f_be ?_
  refine f_t ?_
  refine k_seq ?_
  refine k_reg ?_
  refine l_move ?_
  refine l_assign ?_
  refine k_nil ?_
  refine f_t ?_
  refine k_retc ?_
  apply k_ret [] hB h
theorem strings_Trim_ok {s : Str} {cutset : Str} {r : Str} (h : strings_Trim s cutset = some r) : XSpec Tryz.prog 184 [S s, S cutset] [] (S r) [] [] := by
  unfold strings_Trim at h
  refine X_of_run Tryz.hU Tryz.func184 (fun _ _ _ hB => ?_)
  refine k_seq ?_
  refine k_reg ?_
  refine l_assign ?_
  refine k_nil ?_
  refine f_t ?_
  refine k_seq ?_
  refine k_seq ?_
  refine k_cut (fun q1 => (.normal, ⟨[(0, S s), (1, S cutset), (12, B q1)], [], []⟩)) h (fun t h => ?_) (fun q1 h => ?_)
  · refine k_reg ?_
    refine l_move ?_
    refine l_seq ?_
    refine l_move ?_
    refine l_split h (fun _ h => ?_) (fun _ h => ?_)
    · refine l_off ?_
      refine l_off ?_
      refine l_pick_true ?_
      refine k_nil ?_
      exact k_out [] hB h
    refine l_on ?_
    refine l_move ?_
    refine l_on ?_
    refine l_seq ?_
    refine l_pick_false ?_
    refine k_nil ?_
    exact k_out [] hB h
  refine f_t ?_
  refine k_if h (fun _ h => ?_) (fun _ h => ?_)
  · refine k_seq ?_
    refine k_reg ?_
    refine l_move ?_
    refine l_assign ?_
    refine k_nil ?_
    refine f_t ?_
    refine k_retc ?_
    refine f_tr ?_
    apply k_ret [] hB h
  refine k_skip ?_
  refine f_t ?_
  refine k_seq ?_
  refine k_seq ?_
  refine k_cut (fun q3 => (.normal, ⟨[(0, S s), (1, S cutset), (21, B q3)], [], []⟩)) h (fun t h => ?_) (fun q3 h => ?_)
  · refine k_reg ?_
    refine l_move ?_
    refine l_lens ?_
    refine l_cmp ?_
    refine l_move ?_
    refine l_split h (fun _ h => ?_) (fun _ h => ?_)
    · refine l_on ?_
      refine l_move ?_
      refine l_on ?_
      refine l_ats h (fun v2 _ h => ?_)
      refine l_on ?_
      refine l_cmp ?_
      refine l_pick_true ?_
      refine k_nil ?_
      exact k_out [] hB h
    refine l_off ?_
    refine l_off ?_
    refine l_off ?_
    refine l_pick_false ?_
    refine k_nil ?_
    exact k_out [] hB h
  refine f_t ?_
  refine k_if h (fun _ h => ?_) (fun _ h => ?_)
  · refine k_seq ?_
    refine k_mix [] (.q 0 (.q 1 (.q 2 (.q 4 (.q 5 (.e 3 (.e 6 (.q 7 (.done))))))))) hm ?_
    refine gq ?_
    refine n_move ?_
    refine gq ?_
    refine n_move ?_
    refine gq ?_
    refine n_ats h (fun v4 _ h => ?_)
    refine gq ?_
    refine n_move ?_
    refine gq ?_
    refine n_ats h (fun v5 _ h => ?_)
    refine ge ?_
    refine n_call h (fun _ => strings_trimRightByte_ok) (fun v6 _ h => ?_)
    refine ge ?_
    refine n_call h (fun _ => strings_trimLeftByte_ok) (fun v7 _ h => ?_)
    refine gq ?_
    refine n_assign ?_
    refine m_nil ?_
    refine f_t ?_
    refine k_retc ?_
    refine f_tr ?_
    apply k_ret [] hB h
  refine k_skip ?_
  refine f_t ?_
  refine k_seq ?_
  refine k_seq ?_
  refine k_reg ?_
  refine l_move ?_
  cases h
end Go.Proofs.YtipbfnjpfmmkfaaGreatDoor
