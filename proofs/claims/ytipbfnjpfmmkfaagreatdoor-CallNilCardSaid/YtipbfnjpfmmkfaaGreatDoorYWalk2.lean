/-
  WALKS, printed by aw.py: that the program's functions compute the plain ones. Conditions: none.
-/
import Derived.Test.YtipbfnjpfmmkfaaGreatDoorYWalk1
set_option linter.unusedVariables false
set_option linter.unusedSimpArgs false
set_option maxRecDepth 20000
set_option maxHeartbeats 4000000
namespace Go.Proofs.YtipbfnjpfmmkfaaGreatDoor
open Go Go.Abs W G
theorem stringslite_IndexByte_ok {s : Str} {c : UInt8} {r : Int} (h : stringslite_IndexByte s c = some r) : XSpec Tryz.prog 174 [S s, U c] [] (I r) [] [] := by
  unfold stringslite_IndexByte at h
  refine X_of_run Tryz.hU Tryz.func174 (fun _ _ _ hB => ?_)
  refine k_seq ?_
  refine k_reg ?_
  refine l_assign ?_
  refine k_nil ?_
  refine f_t ?_
  refine k_seq ?_
  refine k_reg ?_
  refine l_move ?_
  refine l_move ?_
  refine l_nat (indexByte_spec Tryz.func206 s c) ?_
  refine l_assign ?_
  refine k_nil ?_
  refine f_t ?_
  refine k_retc ?_
  apply k_ret [] hB h
theorem strings_IndexByte_ok {s : Str} {c : UInt8} {r : Int} (h : strings_IndexByte s c = some r) : XSpec Tryz.prog 132 [S s, U c] [] (I r) [] [] := by
  unfold strings_IndexByte at h
  refine X_of_run Tryz.hU Tryz.func132 (fun _ _ _ hB => ?_)
  refine k_seq ?_
  refine k_reg ?_
  refine l_assign ?_
  refine k_nil ?_
  refine f_t ?_
  refine k_seq ?_
  refine k_reg ?_
  refine l_move ?_
  refine l_move ?_
  refine l_call h (fun _ => stringslite_IndexByte_ok) (fun v1 _ h => ?_)
  refine l_assign ?_
  refine k_nil ?_
  refine f_t ?_
  refine k_retc ?_
  apply k_ret [] hB h
theorem name_Trim_ok {s : Str} {r : Str} (h : name_Trim s = some r) : XSpec Tryz.prog 133 [S s] [] (S r) [] [] := by
  unfold name_Trim at h
  refine X_of_run Tryz.hU Tryz.func133 (fun _ _ _ hB => ?_)
  refine k_seq ?_
  refine k_reg ?_
  refine l_assign ?_
  refine k_nil ?_
  refine f_t ?_
  refine k_seq ?_
  refine k_block ?_
  refine k_loop (fun y1 => ⟨[(0, S y1)], [], []⟩) (fun q5 => (.exit 0, ⟨[(0, S q5)], [], []⟩)) [] hB h (fun y1 t h => ?_) (fun q5 h => ?_)
  · unfold name_Trim_b1 at h
    refine k_seq ?_
    refine k_seq ?_
    refine k_reg ?_
    refine l_move ?_
    refine l_sne ?_
    refine l_move ?_
    refine l_split h (fun _ h => ?_) (fun _ h => ?_)
    · refine l_on ?_
      refine l_move ?_
      refine l_on ?_
      refine l_ats h (fun v2 _ h => ?_)
      refine l_on ?_
      refine l_call h (fun _ => name_Blank_ok) (fun v3 _ h => ?_)
      refine l_pick_true ?_
      refine k_nil ?_
      refine f_t ?_
      refine k_if h (fun _ h => ?_) (fun _ h => ?_)
      · refine k_skip ?_
        refine f_t ?_
        refine k_block ?_
        refine k_reg ?_
        refine l_move ?_
        refine l_subs h (fun v4 _ h => ?_)
        refine l_assign ?_
        refine k_nil ?_
        refine f_b ?_
        exact k_next [] hB h
      refine k_exit ?_
      refine f_te ?_
      exact k_brk [] hB h
    refine l_off ?_
    refine l_off ?_
    refine l_off ?_
    refine l_pick_false ?_
    refine k_nil ?_
    refine f_t ?_
    refine k_f ?_
    refine k_exit ?_
    refine f_te ?_
    exact k_brk [] hB h
  refine f_be ?_
  refine f_t ?_
  refine k_seq ?_
  refine k_block ?_
  refine k_loop (fun y6 => ⟨[(0, S y6)], [], []⟩) (fun q10 => (.exit 2, ⟨[(0, S q10)], [], []⟩)) [] hB h (fun y6 t h => ?_) (fun q10 h => ?_)
  · unfold name_Trim_b2 at h
    refine k_seq ?_
    refine k_seq ?_
    refine k_reg ?_
    refine l_move ?_
    refine l_sne ?_
    refine l_move ?_
    refine l_split h (fun _ h => ?_) (fun _ h => ?_)
    · refine l_on ?_
      refine l_move ?_
      refine l_on ?_
      refine l_move ?_
      refine l_on ?_
      refine l_lens ?_
      refine l_on ?_
      refine l_subw ?_
      refine l_on ?_
      refine l_ats h (fun v7 _ h => ?_)
      refine l_on ?_
      refine l_call h (fun _ => name_Blank_ok) (fun v8 _ h => ?_)
      refine l_pick_true ?_
      refine k_nil ?_
      refine f_t ?_
      refine k_if h (fun _ h => ?_) (fun _ h => ?_)
      · refine k_skip ?_
        refine f_t ?_
        refine k_block ?_
        refine k_reg ?_
        refine l_move ?_
        refine l_move ?_
        refine l_lens ?_
        refine l_subw ?_
        refine l_subs h (fun v9 _ h => ?_)
        refine l_assign ?_
        refine k_nil ?_
        refine f_b ?_
        exact k_next [] hB h
      refine k_exit ?_
      refine f_te ?_
      exact k_brk [] hB h
    refine l_off ?_
    refine l_off ?_
    refine l_off ?_
    refine l_off ?_
    refine l_off ?_
    refine l_off ?_
    refine l_pick_false ?_
    refine k_nil ?_
    refine f_t ?_
    refine k_f ?_
    refine k_exit ?_
    refine f_te ?_
    exact k_brk [] hB h
  refine f_be ?_
  refine f_t ?_
  refine k_seq ?_
  refine k_reg ?_
  refine l_move ?_
  refine l_assign ?_
  refine k_nil ?_
  refine f_t ?_
  refine k_retc ?_
  apply k_ret [] hB h
theorem doc_bare_ok {x : TNode} {r : Bool} (h : doc_bare x = some r) : XSpec Tryz.prog 135 [.agg (c_TNode x)] [] (B r) [] [] := by
  unfold doc_bare at h
  refine X_of_run Tryz.hU Tryz.func135 (fun _ _ _ hB => ?_)
  refine k_seq ?_
  refine k_reg ?_
  refine l_box ?_
  refine l_assign ?_
  refine k_nil ?_
  refine f_t ?_
  refine k_seq ?_
  refine k_reg ?_
  refine l_fieldAddr ?_
  refine l_load ?_
  refine l_seq ?_
  refine l_move ?_
  refine l_split h (fun _ h => ?_) (fun _ h => ?_)
  · refine l_on ?_
    refine l_fieldAddr ?_
    refine l_on ?_
    refine l_load ?_
    refine l_on ?_
    refine l_seq ?_
    refine l_pick_true ?_
    refine l_move ?_
    refine l_split h (fun _ h => ?_) (fun _ h => ?_)
    · refine l_on ?_
      refine l_fieldAddr ?_
      refine l_on ?_
      refine l_load ?_
      refine l_on ?_
      refine l_len ?_
      refine l_on ?_
      refine l_cmp ?_
      refine l_pick_true ?_
      refine l_move ?_
      refine l_split h (fun _ h => ?_) (fun _ h => ?_)
      · refine l_on ?_
        refine l_fieldAddr ?_
        refine l_on ?_
        refine l_load ?_
        refine l_on ?_
        refine l_len ?_
        refine l_on ?_
        refine l_cmp ?_
        refine l_pick_true ?_
        refine l_assign ?_
        refine k_nil ?_
        refine f_t ?_
        refine k_retc ?_
        apply k_ret [] hB h
      refine l_off ?_
      refine l_off ?_
      refine l_off ?_
      refine l_off ?_
      refine l_pick_false ?_
      refine l_assign ?_
      refine k_nil ?_
      refine f_t ?_
      refine k_retc ?_
      apply k_ret [] hB h
    refine l_off ?_
    refine l_off ?_
    refine l_off ?_
    refine l_off ?_
    refine l_pick_false ?_
    refine l_move ?_
    refine l_off ?_
    refine l_off ?_
    refine l_off ?_
    refine l_off ?_
    refine l_pick_false ?_
    refine l_assign ?_
    refine k_nil ?_
    refine f_t ?_
    refine k_retc ?_
    apply k_ret [] hB h
  refine l_off ?_
  refine l_off ?_
  refine l_off ?_
  refine l_pick_false ?_
  refine l_move ?_
  refine l_off ?_
  refine l_off ?_
  refine l_off ?_
  refine l_off ?_
  refine l_pick_false ?_
  refine l_move ?_
  refine l_off ?_
  refine l_off ?_
  refine l_off ?_
  refine l_off ?_
  refine l_pick_false ?_
  refine l_assign ?_
  refine k_nil ?_
  refine f_t ?_
  refine k_retc ?_
  apply k_ret [] hB h
theorem doc_stands_ok {l : (List TNode)} {n : Int} {r : Bool} (h : doc_stands l n = some r) : XSpec Tryz.prog 136 [.vs l.length (F c_TNode l), I n] [] (B r) [] [] := by
  unfold doc_stands at h
  refine X_of_run Tryz.hU Tryz.func136 (fun _ _ _ hB => ?_)
  refine k_seq ?_
  refine k_reg ?_
  refine l_assign ?_
  refine k_nil ?_
  refine f_t ?_
  refine k_seq ?_
  refine k_seq ?_
  refine k_reg ?_
  refine l_move ?_
  refine l_subw ?_
  refine l_assign ?_
  refine k_nil ?_
  refine f_t ?_
  refine k_block ?_
  refine k_loop (fun y1 => ⟨[(0, .vs l.length (F c_TNode l)), (1, I n), (5, I y1)], [], []⟩) (Sum.elim (fun q6 => (.ret, ⟨[(4, B q6)], [], []⟩)) (fun q7 => (.exit 0, ⟨[], [], []⟩))) [] hB h (fun y1 t h => ?_) (fun q h => ?_)
  · unfold doc_stands_b1 at h
    refine k_seq ?_
    refine k_seq ?_
    refine k_reg ?_
    refine l_move ?_
    refine l_cmp ?_
    refine k_nil ?_
    refine f_t ?_
    refine k_if h (fun _ h => ?_) (fun _ h => ?_)
    · refine k_skip ?_
      refine f_t ?_
      refine k_seq ?_
      refine k_block ?_
      refine k_seq ?_
      refine k_reg ?_
      refine l_move ?_
      refine l_move ?_
      refine l_move ?_
      refine l_at h (fun v2 _ h => ?_)
      refine l_fieldAddr ?_
      refine l_load ?_
      refine l_cmp ?_
      refine k_nil ?_
      refine f_t ?_
      refine k_if h (fun _ h => ?_) (fun _ h => ?_)
      · refine k_seq ?_
        refine k_reg ?_
        refine l_move ?_
        refine l_move ?_
        refine l_at h (fun v3 _ h => ?_)
        refine l_fieldAddr ?_
        refine l_load ?_
        refine l_cmp ?_
        refine l_move ?_
        refine l_split h (fun _ h => ?_) (fun _ h => ?_)
        · refine l_off ?_
          refine l_off ?_
          refine l_off ?_
          refine l_off ?_
          refine l_off ?_
          refine l_off ?_
          refine l_pick_true ?_
          refine l_assign ?_
          refine k_nil ?_
          refine f_t ?_
          refine k_retc ?_
          refine f_br ?_
          refine f_tr ?_
          exact k_brk [] hB h
        refine l_on ?_
        refine l_move ?_
        refine l_on ?_
        refine l_move ?_
        refine l_on ?_
        refine l_at h (fun v4 _ h => ?_)
        refine l_on ?_
        refine l_fieldAddr ?_
        refine l_on ?_
        refine l_load ?_
        refine l_on ?_
        refine l_cmp ?_
        refine l_pick_false ?_
        refine l_assign ?_
        refine k_nil ?_
        refine f_t ?_
        refine k_retc ?_
        refine f_br ?_
        refine f_tr ?_
        exact k_brk [] hB h
      refine k_skip ?_
      refine f_b ?_
      refine f_t ?_
      refine k_reg ?_
      refine l_move ?_
      refine l_move ?_
      refine l_at h (fun v5 _ h => ?_)
      refine l_fieldAddr ?_
      refine l_load ?_
      refine l_assign ?_
      refine k_nil ?_
      exact k_next [] hB h
    refine k_exit ?_
    refine f_te ?_
    exact k_brk [] hB h
  rcases q with q6 | q7
  · dsimp only [Sum.elim] at h ⊢
    refine f_br ?_
    refine f_tr ?_
    apply k_ret [] hB h
  dsimp only [Sum.elim] at h ⊢
  refine f_be ?_
  refine f_t ?_
  refine k_seq ?_
  refine k_reg ?_
  refine l_assign ?_
  refine k_nil ?_
  refine f_t ?_
  refine k_retc ?_
  apply k_ret [] hB h
theorem doc_declared_c1_ok {o : TDecl} {p1 : TDecl} {r : Bool} (h : doc_declared_c1 o p1 = some r) : XSpec Tryz.prog 209 [.agg (c_TDecl o), .vptr (c_TDecl p1)] [] (B r) [] [] := by
  unfold doc_declared_c1 at h
  refine X_of_run Tryz.hU Tryz.func209 (fun _ _ _ hB => ?_)
  refine k_seq ?_
  refine k_reg ?_
  refine l_box ?_
  refine l_assign ?_
  refine k_nil ?_
  refine f_t ?_
  refine k_seq ?_
  refine k_reg ?_
  refine l_fieldAddr ?_
  refine l_load ?_
  refine l_fieldAddr ?_
  refine l_load ?_
  refine l_seq ?_
  refine l_assign ?_
  refine k_nil ?_
  refine f_t ?_
  refine k_retc ?_
  apply k_ret [] hB h
theorem slices_IndexFunc_Decl_ok {s : (List TDecl)} {f : (TDecl → Option Bool)} {fk_f : Nat} {fc_f : List AV} (hf_f : ∀ {x0 : TDecl} {r : Bool}, f x0 = some r → XSpec Tryz.prog fk_f ((.agg (c_TDecl x0)) :: fc_f) [] (B r) [] []) (hc_f : AV.closedL fc_f = true ∧ AV.onlyL [] fc_f = true) {r : Int} (h : slices_IndexFunc_Decl s f = some r) : XSpec Tryz.prog 236 [.vs s.length (F c_TDecl s), .fn (.func fk_f) [] fc_f] [] (I r) [] [] := by
  unfold slices_IndexFunc_Decl at h
  refine X_of_run Tryz.hU Tryz.func236 (fun _ _ _ hB => ?_)
  refine k_seq ?_
  refine k_reg ?_
  refine l_assign ?_
  refine k_nil ?_
  refine f_t ?_
  refine k_seq ?_
  refine k_seq ?_
  refine k_reg ?_
  refine l_move ?_
  refine l_len ?_
  refine l_move ?_
  refine k_nil ?_
  refine f_t ?_
  refine k_block ?_
  refine k_loop (fun y1 => ⟨[(0, .vs s.length (F c_TDecl s)), (1, .fn (.func fk_f) [] fc_f), (7, I (s.length : Int)), (8, I y1)], [], []⟩) (Sum.elim (fun q4 => (.ret, ⟨[(4, I q4)], [], []⟩)) (fun q5 => (.exit 0, ⟨[], [], []⟩))) [] hB h (fun y1 t h => ?_) (fun q h => ?_)
  · unfold slices_IndexFunc_Decl_b1 at h
    refine k_seq ?_
    refine k_reg ?_
    refine l_cmp ?_
    refine k_nil ?_
    refine f_t ?_
    refine k_seq ?_
    refine k_if h (fun _ h => ?_) (fun _ h => ?_)
    · refine k_skip ?_
      refine f_t ?_
      refine k_seq ?_
      refine k_block ?_
      refine k_seq ?_
      refine k_reg ?_
      refine l_move ?_
      refine l_assign ?_
      refine k_nil ?_
      refine f_t ?_
      refine k_seq ?_
      refine k_reg ?_
      refine l_move ?_
      refine l_move ?_
      refine l_move ?_
      refine l_at h (fun v2 _ h => ?_)
      refine l_load_agg ?_
      refine l_callF hc_f h (fun _ => hf_f) (fun v3 _ h => ?_)
      refine k_nil ?_
      refine f_t ?_
      refine k_if h (fun _ h => ?_) (fun _ h => ?_)
      · refine k_seq ?_
        refine k_reg ?_
        refine l_move ?_
        refine l_assign ?_
        refine k_nil ?_
        refine f_t ?_
        refine k_retc ?_
        refine f_br ?_
        refine f_tr ?_
        exact k_brk [] hB h
      refine k_skip ?_
      refine f_b ?_
      refine f_t ?_
      refine k_reg ?_
      refine l_addw ?_
      refine l_move ?_
      refine k_nil ?_
      exact k_next [] hB h
    refine k_exit ?_
    refine f_te ?_
    exact k_brk [] hB h
  rcases q with q4 | q5
  · dsimp only [Sum.elim] at h ⊢
    refine f_br ?_
    refine f_tr ?_
    apply k_ret [] hB h
  dsimp only [Sum.elim] at h ⊢
  refine f_be ?_
  refine f_t ?_
  refine k_seq ?_
  refine k_reg ?_
  refine l_assign ?_
  refine k_nil ?_
  refine f_t ?_
  refine k_retc ?_
  apply k_ret [] hB h
theorem slices_ContainsFunc_Decl_ok {s : (List TDecl)} {f : (TDecl → Option Bool)} {fk_f : Nat} {fc_f : List AV} (hf_f : ∀ {x0 : TDecl} {r : Bool}, f x0 = some r → XSpec Tryz.prog fk_f ((.agg (c_TDecl x0)) :: fc_f) [] (B r) [] []) (hc_f : AV.closedL fc_f = true ∧ AV.onlyL [] fc_f = true) {r : Bool} (h : slices_ContainsFunc_Decl s f = some r) : XSpec Tryz.prog 208 [.vs s.length (F c_TDecl s), .fn (.func fk_f) [] fc_f] [] (B r) [] [] := by
  unfold slices_ContainsFunc_Decl at h
  refine X_of_run Tryz.hU Tryz.func208 (fun _ _ _ hB => ?_)
  refine k_seq ?_
  refine k_reg ?_
  refine l_assign ?_
  refine k_nil ?_
  refine f_t ?_
  refine k_seq ?_
  refine k_reg ?_
  refine l_move ?_
  refine l_move ?_
  refine l_call h (fun _ => slices_IndexFunc_Decl_ok (fun h => hf_f h) hc_f) (fun v1 _ h => ?_)
  refine l_cmp ?_
  refine l_assign ?_
  refine k_nil ?_
  refine f_t ?_
  refine k_retc ?_
  apply k_ret [] hB h
theorem doc_prefix_ok {s : Str} {r : Bool} (h : doc_prefix s = some r) : XSpec Tryz.prog 210 [S s] [] (B r) [] [] := by
  unfold doc_prefix at h
  refine X_of_run Tryz.hU Tryz.func210 (fun _ _ _ hB => ?_)
  refine k_seq ?_
  refine k_reg ?_
  refine l_assign ?_
  refine k_nil ?_
  refine f_t ?_
  refine k_seq ?_
  refine k_reg ?_
  refine l_move ?_
  refine l_seq ?_
  refine l_move ?_
  refine l_split h (fun _ h => ?_) (fun _ h => ?_)
  · refine l_off ?_
    refine l_off ?_
    refine l_pick_true ?_
    refine l_assign ?_
    refine k_nil ?_
    refine f_t ?_
    refine k_retc ?_
    apply k_ret [] hB h
  refine l_on ?_
  refine l_move ?_
  refine l_on ?_
  refine l_call h (fun _ => name_Is_ok) (fun v1 _ h => ?_)
  refine l_pick_false ?_
  refine l_assign ?_
  refine k_nil ?_
  refine f_t ?_
  refine k_retc ?_
  apply k_ret [] hB h
theorem doc_text_ok {s : Str} {r : Bool} (h : doc_text s = some r) : XSpec Tryz.prog 179 [S s] [] (B r) [] [] := by
  unfold doc_text at h
  refine X_of_run Tryz.hU Tryz.func179 (fun _ _ _ hB => ?_)
  refine k_seq ?_
  refine k_reg ?_
  refine l_assign ?_
  refine k_nil ?_
  refine f_t ?_
  refine k_seq ?_
  refine k_reg ?_
  refine l_move ?_
  refine l_strb ?_
  refine l_callB h (fun _ => utf_Text_ok) (fun v1 _ h => ?_)
  refine l_assign ?_
  refine k_nil ?_
  refine f_t ?_
  refine k_retc ?_
  apply k_ret [] hB h
theorem doc_declared_ok {l : (List TDecl)} {r : Bool} (h : doc_declared l = some r) : XSpec Tryz.prog 177 [.vs l.length (F c_TDecl l)] [] (B r) [] [] := by
  unfold doc_declared at h
  refine X_of_run Tryz.hU Tryz.func177 (fun _ _ _ hB => ?_)
  refine k_seq ?_
  refine k_reg ?_
  refine l_assign ?_
  refine k_nil ?_
  refine f_t ?_
  refine k_seq ?_
  refine k_seq ?_
  refine k_reg ?_
  refine l_move ?_
  refine l_len ?_
  refine l_move ?_
  refine k_nil ?_
  refine f_t ?_
  refine k_block ?_
  refine k_loop (fun y1 => ⟨[(0, .vs l.length (F c_TDecl l)), (6, .vs l.length (F c_TDecl l)), (7, I (l.length : Int)), (8, I y1)], [], []⟩) (Sum.elim (fun q7 => (.ret, ⟨[(2, B false)], [], []⟩)) (fun q8 => (.exit 0, ⟨[], [], []⟩))) [] hB h (fun y1 t h => ?_) (fun q h => ?_)
  · unfold doc_declared_b1 at h
    refine k_seq ?_
    refine k_reg ?_
    refine l_cmp ?_
    refine k_nil ?_
    refine f_t ?_
    refine k_seq ?_
    refine k_if h (fun _ h => ?_) (fun _ h => ?_)
    · refine k_skip ?_
      refine f_t ?_
      refine k_seq ?_
      refine k_block ?_
      refine k_seq ?_
      refine k_reg ?_
      refine l_move ?_
      refine l_at h (fun v2 _ h => ?_)
      refine l_load_agg ?_
      refine l_alloc ?_
      refine l_assign ?_
      refine l_store_box ?_
      refine k_nil ?_
      refine f_t ?_
      refine k_seq ?_
      refine k_reg ?_
      refine l_move ?_
      refine l_move ?_
      refine l_subf h (fun v3 _ h => ?_)
      refine l_makeFunc ?_
      refine l_callB h (fun _ => slices_ContainsFunc_Decl_ok (fun h => doc_declared_c1_ok h) ⟨rfl, rfl⟩) (fun v4 _ h => ?_)
      refine l_assign ?_
      refine k_nil ?_
      refine f_t ?_
      refine k_seq ?_
      refine k_reg ?_
      refine l_move ?_
      refine l_move ?_
      refine l_split h (fun _ h => ?_) (fun _ h => ?_)
      · refine l_off ?_
        refine l_off ?_
        refine l_off ?_
        refine l_off ?_
        refine l_pick_true ?_
        refine l_move ?_
        refine l_off ?_
        refine l_off ?_
        refine l_off ?_
        refine l_pick_true ?_
        refine l_move ?_
        refine l_off ?_
        refine l_off ?_
        refine l_off ?_
        refine l_off ?_
        refine l_pick_true ?_
        refine l_move ?_
        refine l_off ?_
        refine l_off ?_
        refine l_off ?_
        refine l_off ?_
        refine l_off ?_
        refine l_off ?_
        refine l_off ?_
        refine l_off ?_
        refine l_pick_true ?_
        refine l_move ?_
        refine l_off ?_
        refine l_off ?_
        refine l_off ?_
        refine l_off ?_
        refine l_off ?_
        refine l_off ?_
        refine l_off ?_
        refine l_pick_true ?_
        refine l_move ?_
        refine l_off ?_
        refine l_off ?_
        refine l_off ?_
        refine l_pick_true ?_
        refine k_nil ?_
        refine f_t ?_
        refine k_t ?_
        refine k_seq ?_
        refine k_reg ?_
        refine l_assign ?_
        refine k_nil ?_
        refine f_t ?_
        refine k_retc ?_
        refine f_br ?_
        refine f_tr ?_
        exact k_brk [] hB h
      refine l_on ?_
      refine l_fieldAddr ?_
      refine l_on ?_
      refine l_load ?_
      refine l_on ?_
      refine l_call h (fun _ => doc_prefix_ok) (fun v5 _ h => ?_)
      refine l_on ?_
      refine l_un ?_
      refine l_pick_false ?_
      refine l_move ?_
      refine l_split h (fun _ h => ?_) (fun _ h => ?_)
      · refine l_off ?_
        refine l_off ?_
        refine l_off ?_
        refine l_pick_true ?_
        refine l_move ?_
        refine l_off ?_
        refine l_off ?_
        refine l_off ?_
        refine l_off ?_
        refine l_pick_true ?_
        refine l_move ?_
        refine l_off ?_
        refine l_off ?_
        refine l_off ?_
        refine l_off ?_
        refine l_off ?_
        refine l_off ?_
        refine l_off ?_
        refine l_off ?_
        refine l_pick_true ?_
        refine l_move ?_
        refine l_off ?_
        refine l_off ?_
        refine l_off ?_
        refine l_off ?_
        refine l_off ?_
        refine l_off ?_
        refine l_off ?_
        refine l_pick_true ?_
        refine l_move ?_
        refine l_off ?_
        refine l_off ?_
        refine l_off ?_
        refine l_pick_true ?_
        refine k_nil ?_
        refine f_t ?_
        refine k_t ?_
        refine k_seq ?_
        refine k_reg ?_
        refine l_assign ?_
        refine k_nil ?_
        refine f_t ?_
        refine k_retc ?_
        refine f_br ?_
        refine f_tr ?_
        exact k_brk [] hB h
      refine l_on ?_
      refine l_fieldAddr ?_
      refine l_on ?_
      refine l_load ?_
      refine l_on ?_
      refine l_seq ?_
      refine l_pick_false ?_
      refine l_move ?_
      refine l_split h (fun _ h => ?_) (fun _ h => ?_)
      · refine l_off ?_
        refine l_off ?_
        refine l_off ?_
        refine l_off ?_
        refine l_pick_true ?_
        refine l_move ?_
        refine l_off ?_
        refine l_off ?_
        refine l_off ?_
        refine l_off ?_
        refine l_off ?_
        refine l_off ?_
        refine l_off ?_
        refine l_off ?_
        refine l_pick_true ?_
        refine l_move ?_
        refine l_off ?_
        refine l_off ?_
        refine l_off ?_
        refine l_off ?_
        refine l_off ?_
        refine l_off ?_
        refine l_off ?_
        refine l_pick_true ?_
        refine l_move ?_
        refine l_off ?_
        refine l_off ?_
        refine l_off ?_
        refine l_pick_true ?_
        refine k_nil ?_
        refine f_t ?_
        refine k_t ?_
        refine k_seq ?_
        refine k_reg ?_
        refine l_assign ?_
        refine k_nil ?_
        refine f_t ?_
        refine k_retc ?_
        refine f_br ?_
        refine f_tr ?_
        exact k_brk [] hB h
      refine l_on ?_
      refine l_fieldAddr ?_
      refine l_on ?_
      refine l_load ?_
      refine l_on ?_
      refine l_call h (fun _ => doc_text_ok) (fun v6 _ h => ?_)
      refine l_on ?_
      refine l_un ?_
      refine l_pick_false ?_
      refine l_move ?_
      refine l_split h (fun _ h => ?_) (fun _ h => ?_)
      · refine l_off ?_
        refine l_off ?_
        refine l_off ?_
        refine l_off ?_
        refine l_off ?_
        refine l_off ?_
        refine l_off ?_
        refine l_off ?_
        refine l_pick_true ?_
        refine l_move ?_
        refine l_off ?_
        refine l_off ?_
        refine l_off ?_
        refine l_off ?_
        refine l_off ?_
        refine l_off ?_
        refine l_off ?_
        refine l_pick_true ?_
        refine l_move ?_
        refine l_off ?_
        refine l_off ?_
        refine l_off ?_
        refine l_pick_true ?_
        refine k_nil ?_
        refine f_t ?_
        refine k_t ?_
        refine k_seq ?_
        refine k_reg ?_
        refine l_assign ?_
        refine k_nil ?_
        refine f_t ?_
        refine k_retc ?_
        refine f_br ?_
        refine f_tr ?_
        exact k_brk [] hB h
      refine l_on ?_
      refine l_fieldAddr ?_
      refine l_on ?_
      refine l_load ?_
      refine l_on ?_
      refine l_seq ?_
      refine l_on ?_
      refine l_move ?_
      refine l_split h (fun _ h => ?_) (fun _ h => ?_)
      · refine l_on ?_
        refine l_fieldAddr ?_
        refine l_on ?_
        refine l_load ?_
        refine l_on ?_
        refine l_sne ?_
        refine l_on ?_
        refine l_pick_true ?_
        refine l_pick_false ?_
        refine l_move ?_
        refine l_split h (fun _ h => ?_) (fun _ h => ?_)
        · refine l_off ?_
          refine l_off ?_
          refine l_off ?_
          refine l_off ?_
          refine l_off ?_
          refine l_off ?_
          refine l_off ?_
          refine l_pick_true ?_
          refine l_move ?_
          refine l_off ?_
          refine l_off ?_
          refine l_off ?_
          refine l_pick_true ?_
          refine k_nil ?_
          refine f_t ?_
          refine k_t ?_
          refine k_seq ?_
          refine k_reg ?_
          refine l_assign ?_
          refine k_nil ?_
          refine f_t ?_
          refine k_retc ?_
          refine f_br ?_
          refine f_tr ?_
          exact k_brk [] hB h
        refine l_on ?_
        refine l_fieldAddr ?_
        refine l_on ?_
        refine l_load ?_
        refine l_on ?_
        refine l_seq ?_
        refine l_on ?_
        refine l_fieldAddr ?_
        refine l_on ?_
        refine l_load ?_
        refine l_on ?_
        refine l_seq ?_
        refine l_on ?_
        refine l_bool ?_
        refine l_pick_false ?_
        refine l_move ?_
        refine l_split h (fun _ h => ?_) (fun _ h => ?_)
        · refine l_off ?_
          refine l_off ?_
          refine l_off ?_
          refine l_pick_true ?_
          refine k_nil ?_
          refine f_t ?_
          refine k_t ?_
          refine k_seq ?_
          refine k_reg ?_
          refine l_assign ?_
          refine k_nil ?_
          refine f_t ?_
          refine k_retc ?_
          refine f_br ?_
          refine f_tr ?_
          exact k_brk [] hB h
        refine l_on ?_
        refine l_fieldAddr ?_
        refine l_on ?_
        refine l_load ?_
        refine l_on ?_
        refine l_seq ?_
        refine l_pick_false ?_
        refine k_nil ?_
        refine f_t ?_
        refine k_if h (fun _ h => ?_) (fun _ h => ?_)
        · refine k_seq ?_
          refine k_reg ?_
          refine l_assign ?_
          refine k_nil ?_
          refine f_t ?_
          refine k_retc ?_
          refine f_br ?_
          refine f_tr ?_
          exact k_brk [] hB h
        refine k_skip ?_
        refine f_b ?_
        refine f_t ?_
        refine k_reg ?_
        refine l_addw ?_
        refine l_move ?_
        refine k_nil ?_
        exact k_next [] hB h
      refine l_off ?_
      refine l_off ?_
      refine l_off ?_
      refine l_on ?_
      refine l_pick_false ?_
      refine l_pick_false ?_
      refine l_move ?_
      refine l_on ?_
      refine l_fieldAddr ?_
      refine l_on ?_
      refine l_load ?_
      refine l_on ?_
      refine l_seq ?_
      refine l_on ?_
      refine l_fieldAddr ?_
      refine l_on ?_
      refine l_load ?_
      refine l_on ?_
      refine l_seq ?_
      refine l_on ?_
      refine l_bool ?_
      refine l_pick_false ?_
      refine l_move ?_
      refine l_split h (fun _ h => ?_) (fun _ h => ?_)
      · refine l_off ?_
        refine l_off ?_
        refine l_off ?_
        refine l_pick_true ?_
        refine k_nil ?_
        refine f_t ?_
        refine k_t ?_
        refine k_seq ?_
        refine k_reg ?_
        refine l_assign ?_
        refine k_nil ?_
        refine f_t ?_
        refine k_retc ?_
        refine f_br ?_
        refine f_tr ?_
        exact k_brk [] hB h
      refine l_on ?_
      refine l_fieldAddr ?_
      refine l_on ?_
      refine l_load ?_
      refine l_on ?_
      refine l_seq ?_
      refine l_pick_false ?_
      refine k_nil ?_
      refine f_t ?_
      refine k_if h (fun _ h => ?_) (fun _ h => ?_)
      · refine k_seq ?_
        refine k_reg ?_
        refine l_assign ?_
        refine k_nil ?_
        refine f_t ?_
        refine k_retc ?_
        refine f_br ?_
        refine f_tr ?_
        exact k_brk [] hB h
      refine k_skip ?_
      refine f_b ?_
      refine f_t ?_
      refine k_reg ?_
      refine l_addw ?_
      refine l_move ?_
      refine k_nil ?_
      exact k_next [] hB h
    refine k_exit ?_
    refine f_te ?_
    exact k_brk [] hB h
  rcases q with q7 | q8
  · dsimp only [Sum.elim] at h ⊢
    refine f_br ?_
    refine f_tr ?_
    apply k_ret [] hB h
  dsimp only [Sum.elim] at h ⊢
  refine f_be ?_
  refine f_t ?_
  refine k_seq ?_
  refine k_reg ?_
  refine l_assign ?_
  refine k_nil ?_
  refine f_t ?_
  refine k_retc ?_
  apply k_ret [] hB h
theorem doc_means_ok {l : (List TNode)} {n : Int} {p : Str} {r : Str × Bool} (h : doc_means l n p = some r) : XSpec Tryz.prog 211 [.vs l.length (F c_TNode l), I n, S p] [] (.tup [S r.1, B r.2]) [] [] := by
  unfold doc_means at h
  refine X_of_run Tryz.hU Tryz.func211 (fun _ _ _ hB => ?_)
  refine k_seq ?_
  refine k_reg ?_
  refine l_assign ?_
  refine l_assign ?_
  refine k_nil ?_
  refine f_t ?_
  refine k_seq ?_
  refine k_seq ?_
  refine k_reg ?_
  refine l_move ?_
  refine l_seq ?_
  refine k_nil ?_
  refine f_t ?_
  refine k_if h (fun _ h => ?_) (fun _ h => ?_)
  · refine k_seq ?_
    refine k_reg ?_
    refine l_assign ?_
    refine l_assign ?_
    refine k_nil ?_
    refine f_t ?_
    refine k_retc ?_
    refine f_tr ?_
    apply k_ret [] hB h
  refine k_skip ?_
  refine f_t ?_
  refine k_seq ?_
  refine k_block ?_
  refine k_loop (fun y1 => ⟨[(0, .vs l.length (F c_TNode l)), (1, I y1), (2, S p)], [], []⟩) (Sum.elim (fun q8 => (.ret, ⟨[(6, S q8), (7, B true)], [], []⟩)) (fun q9 => (.exit 0, ⟨[(2, S p)], [], []⟩))) [] hB h (fun y1 t h => ?_) (fun q h => ?_)
  · unfold doc_means_b1 at h
    refine k_seq ?_
    refine k_seq ?_
    refine k_reg ?_
    refine l_move ?_
    refine l_cmp ?_
    refine k_nil ?_
    refine f_t ?_
    refine k_if h (fun _ h => ?_) (fun _ h => ?_)
    · refine k_skip ?_
      refine f_t ?_
      refine k_seq ?_
      refine k_block ?_
      refine k_seq ?_
      refine k_reg ?_
      refine l_move ?_
      refine l_move ?_
      refine l_at h (fun v2 _ h => ?_)
      refine l_fieldAddr ?_
      refine l_load ?_
      refine l_len ?_
      refine l_move ?_
      refine k_nil ?_
      refine f_t ?_
      refine k_block ?_
      refine k_loop (fun y3 => ⟨[(0, .vs l.length (F c_TNode l)), (1, I y1), (2, S p), (23, .vs v2.Decls.length (F c_TDecl v2.Decls)), (24, I (v2.Decls.length : Int)), (25, I y3)], [], []⟩) (Sum.elim (fun q5 => (.ret, ⟨[(6, S q5), (7, B true)], [], []⟩)) (fun q6 => (.exit 2, ⟨[(0, .vs l.length (F c_TNode l)), (1, I y1), (2, S p)], [], []⟩))) [] hB h (fun y3 t h => ?_) (fun q h => ?_)
      · unfold doc_means_b2 at h
        refine k_seq ?_
        refine k_reg ?_
        refine l_cmp ?_
        refine k_nil ?_
        refine f_t ?_
        refine k_seq ?_
        refine k_if h (fun _ h => ?_) (fun _ h => ?_)
        · refine k_skip ?_
          refine f_t ?_
          refine k_seq ?_
          refine k_block ?_
          refine k_seq ?_
          refine k_reg ?_
          refine l_at h (fun v4 _ h => ?_)
          refine l_load_agg ?_
          refine l_alloc ?_
          refine l_store_box ?_
          refine k_nil ?_
          refine f_t ?_
          refine k_seq ?_
          refine k_reg ?_
          refine l_fieldAddr ?_
          refine l_load ?_
          refine l_move ?_
          refine l_seq ?_
          refine k_nil ?_
          refine f_t ?_
          refine k_if h (fun _ h => ?_) (fun _ h => ?_)
          · refine k_seq ?_
            refine k_reg ?_
            refine l_fieldAddr ?_
            refine l_load ?_
            refine l_assign ?_
            refine l_assign ?_
            refine k_nil ?_
            refine f_t ?_
            refine k_retc ?_
            refine f_br ?_
            refine f_tr ?_
            exact k_brk [] hB h
          refine k_skip ?_
          refine f_b ?_
          refine f_t ?_
          refine k_reg ?_
          refine l_addw ?_
          refine l_move ?_
          refine k_nil ?_
          exact k_next [] hB h
        refine k_exit ?_
        refine f_te ?_
        exact k_brk [] hB h
      rcases q with q5 | q6
      · dsimp only [Sum.elim] at h ⊢
        refine f_br ?_
        refine f_br ?_
        refine f_tr ?_
        exact k_brk [] hB h
      dsimp only [Sum.elim] at h ⊢
      refine f_be ?_
      refine f_b ?_
      refine f_t ?_
      refine k_reg ?_
      refine l_move ?_
      refine l_move ?_
      refine l_at h (fun v7 _ h => ?_)
      refine l_fieldAddr ?_
      refine l_load ?_
      refine l_assign ?_
      refine k_nil ?_
      exact k_next [] hB h
    refine k_exit ?_
    refine f_te ?_
    exact k_brk [] hB h
  rcases q with q8 | q9
  · dsimp only [Sum.elim] at h ⊢
    refine f_br ?_
    refine f_tr ?_
    apply k_ret [] hB h
  dsimp only [Sum.elim] at h ⊢
  refine f_be ?_
  refine f_t ?_
  refine k_seq ?_
  refine k_reg ?_
  refine l_move ?_
  refine l_seq ?_
  refine l_assign ?_
  refine l_assign ?_
  refine k_nil ?_
  refine f_t ?_
  refine k_retc ?_
  apply k_ret [] hB h
theorem doc_named_c1_ok {o : TAttr} {p1 : TAttr} {r : Bool} (h : doc_named_c1 o p1 = some r) : XSpec Tryz.prog 213 [.agg (c_TAttr o), .vptr (c_TAttr p1)] [] (B r) [] [] := by
  unfold doc_named_c1 at h
  refine X_of_run Tryz.hU Tryz.func213 (fun _ _ _ hB => ?_)
  refine k_seq ?_
  refine k_reg ?_
  refine l_box ?_
  refine l_assign ?_
  refine k_nil ?_
  refine f_t ?_
  refine k_seq ?_
  refine k_reg ?_
  refine l_fieldAddr ?_
  refine l_load ?_
  refine l_fieldAddr ?_
  refine l_load ?_
  refine l_seq ?_
  refine l_move ?_
  refine l_split h (fun _ h => ?_) (fun _ h => ?_)
  · refine l_on ?_
    refine l_fieldAddr ?_
    refine l_on ?_
    refine l_load ?_
    refine l_on ?_
    refine l_fieldAddr ?_
    refine l_on ?_
    refine l_load ?_
    refine l_on ?_
    refine l_seq ?_
    refine l_pick_true ?_
    refine l_assign ?_
    refine k_nil ?_
    refine f_t ?_
    refine k_retc ?_
    apply k_ret [] hB h
  refine l_off ?_
  refine l_off ?_
  refine l_off ?_
  refine l_off ?_
  refine l_off ?_
  refine l_pick_false ?_
  refine l_assign ?_
  refine k_nil ?_
  refine f_t ?_
  refine k_retc ?_
  apply k_ret [] hB h
theorem slices_IndexFunc_Attr_ok {s : (List TAttr)} {f : (TAttr → Option Bool)} {fk_f : Nat} {fc_f : List AV} (hf_f : ∀ {x0 : TAttr} {r : Bool}, f x0 = some r → XSpec Tryz.prog fk_f ((.agg (c_TAttr x0)) :: fc_f) [] (B r) [] []) (hc_f : AV.closedL fc_f = true ∧ AV.onlyL [] fc_f = true) {r : Int} (h : slices_IndexFunc_Attr s f = some r) : XSpec Tryz.prog 237 [.vs s.length (F c_TAttr s), .fn (.func fk_f) [] fc_f] [] (I r) [] [] := by
  unfold slices_IndexFunc_Attr at h
  refine X_of_run Tryz.hU Tryz.func237 (fun _ _ _ hB => ?_)
  refine k_seq ?_
  refine k_reg ?_
  refine l_assign ?_
  refine k_nil ?_
  refine f_t ?_
  refine k_seq ?_
  refine k_seq ?_
  refine k_reg ?_
  refine l_move ?_
  refine l_len ?_
  refine l_move ?_
  refine k_nil ?_
  refine f_t ?_
  refine k_block ?_
  refine k_loop (fun y1 => ⟨[(0, .vs s.length (F c_TAttr s)), (1, .fn (.func fk_f) [] fc_f), (7, I (s.length : Int)), (8, I y1)], [], []⟩) (Sum.elim (fun q4 => (.ret, ⟨[(4, I q4)], [], []⟩)) (fun q5 => (.exit 0, ⟨[], [], []⟩))) [] hB h (fun y1 t h => ?_) (fun q h => ?_)
  · unfold slices_IndexFunc_Attr_b1 at h
    refine k_seq ?_
    refine k_reg ?_
    refine l_cmp ?_
    refine k_nil ?_
    refine f_t ?_
    refine k_seq ?_
    refine k_if h (fun _ h => ?_) (fun _ h => ?_)
    · refine k_skip ?_
      refine f_t ?_
      refine k_seq ?_
      refine k_block ?_
      refine k_seq ?_
      refine k_reg ?_
      refine l_move ?_
      refine l_assign ?_
      refine k_nil ?_
      refine f_t ?_
      refine k_seq ?_
      refine k_reg ?_
      refine l_move ?_
      refine l_move ?_
      refine l_move ?_
      refine l_at h (fun v2 _ h => ?_)
      refine l_load_agg ?_
      refine l_callF hc_f h (fun _ => hf_f) (fun v3 _ h => ?_)
      refine k_nil ?_
      refine f_t ?_
      refine k_if h (fun _ h => ?_) (fun _ h => ?_)
      · refine k_seq ?_
        refine k_reg ?_
        refine l_move ?_
        refine l_assign ?_
        refine k_nil ?_
        refine f_t ?_
        refine k_retc ?_
        refine f_br ?_
        refine f_tr ?_
        exact k_brk [] hB h
      refine k_skip ?_
      refine f_b ?_
      refine f_t ?_
      refine k_reg ?_
      refine l_addw ?_
      refine l_move ?_
      refine k_nil ?_
      exact k_next [] hB h
    refine k_exit ?_
    refine f_te ?_
    exact k_brk [] hB h
  rcases q with q4 | q5
  · dsimp only [Sum.elim] at h ⊢
    refine f_br ?_
    refine f_tr ?_
    apply k_ret [] hB h
  dsimp only [Sum.elim] at h ⊢
  refine f_be ?_
  refine f_t ?_
  refine k_seq ?_
  refine k_reg ?_
  refine l_assign ?_
  refine k_nil ?_
  refine f_t ?_
  refine k_retc ?_
  apply k_ret [] hB h
theorem slices_ContainsFunc_Attr_ok {s : (List TAttr)} {f : (TAttr → Option Bool)} {fk_f : Nat} {fc_f : List AV} (hf_f : ∀ {x0 : TAttr} {r : Bool}, f x0 = some r → XSpec Tryz.prog fk_f ((.agg (c_TAttr x0)) :: fc_f) [] (B r) [] []) (hc_f : AV.closedL fc_f = true ∧ AV.onlyL [] fc_f = true) {r : Bool} (h : slices_ContainsFunc_Attr s f = some r) : XSpec Tryz.prog 212 [.vs s.length (F c_TAttr s), .fn (.func fk_f) [] fc_f] [] (B r) [] [] := by
  unfold slices_ContainsFunc_Attr at h
  refine X_of_run Tryz.hU Tryz.func212 (fun _ _ _ hB => ?_)
  refine k_seq ?_
  refine k_reg ?_
  refine l_assign ?_
  refine k_nil ?_
  refine f_t ?_
  refine k_seq ?_
  refine k_reg ?_
  refine l_move ?_
  refine l_move ?_
  refine l_call h (fun _ => slices_IndexFunc_Attr_ok (fun h => hf_f h) hc_f) (fun v1 _ h => ?_)
  refine l_cmp ?_
  refine l_assign ?_
  refine k_nil ?_
  refine f_t ?_
  refine k_retc ?_
  apply k_ret [] hB h
theorem doc_named_ok {l : (List TNode)} {n : Int} {r : Bool} (h : doc_named l n = some r) : XSpec Tryz.prog 178 [.vs l.length (F c_TNode l), I n] [] (B r) [] [] := by
  unfold doc_named at h
  refine X_of_run Tryz.hU Tryz.func178 (fun _ _ _ hB => ?_)
  refine k_seq ?_
  refine k_reg ?_
  refine l_assign ?_
  refine k_nil ?_
  refine f_t ?_
  refine k_seq ?_
  refine k_reg ?_
  refine l_move ?_
  refine l_move ?_
  refine l_at h (fun v1 _ h => ?_)
  refine l_load_agg ?_
  refine l_alloc ?_
  refine l_store_box ?_
  refine k_nil ?_
  refine f_t ?_
  refine k_seq ?_
  refine k_reg ?_
  refine l_move ?_
  refine l_move ?_
  refine l_fieldAddr ?_
  refine l_load ?_
  refine l_call h (fun _ => doc_means_ok) (fun v2 _ h => ?_)
  refine l_move ?_
  refine l_extract ?_
  refine l_extract ?_
  refine l_assign ?_
  refine l_assign ?_
  refine k_nil ?_
  refine f_t ?_
  refine k_seq ?_
  refine k_seq ?_
  refine k_cut (fun q5 => (.normal, ⟨[(0, .vs l.length (F c_TNode l)), (1, I n), (5, .ptr 1005 0), (49, B q5)], [(1005, .box 89 [I v1.Kind, I v1.Parent, S v1.Prefix, S v1.Local, S v1.URI, S v1.Text, .vs v1.Decls.length (F c_TDecl v1.Decls), .vs v1.Attrs.length (F c_TAttr v1.Attrs)])], []⟩)) h (fun t h => ?_) (fun q5 h => ?_)
  · refine k_reg ?_
    refine l_move ?_
    refine l_un ?_
    refine l_move ?_
    refine l_split h (fun _ h => ?_) (fun _ h => ?_)
    · refine l_off ?_
      refine l_off ?_
      refine l_off ?_
      refine l_off ?_
      refine l_pick_true ?_
      refine l_move ?_
      refine l_off ?_
      refine l_off ?_
      refine l_off ?_
      refine l_off ?_
      refine l_pick_true ?_
      refine l_move ?_
      refine l_off ?_
      refine l_off ?_
      refine l_off ?_
      refine l_off ?_
      refine l_pick_true ?_
      refine l_move ?_
      refine l_off ?_
      refine l_off ?_
      refine l_off ?_
      refine l_pick_true ?_
      refine k_nil ?_
      exact k_out [(1005, 1005)] hB h
    refine l_on ?_
    refine l_move ?_
    refine l_on ?_
    refine l_fieldAddr ?_
    refine l_on ?_
    refine l_load ?_
    refine l_on ?_
    refine l_sne ?_
    refine l_pick_false ?_
    refine l_move ?_
    refine l_split h (fun _ h => ?_) (fun _ h => ?_)
    · refine l_off ?_
      refine l_off ?_
      refine l_off ?_
      refine l_off ?_
      refine l_pick_true ?_
      refine l_move ?_
      refine l_off ?_
      refine l_off ?_
      refine l_off ?_
      refine l_off ?_
      refine l_pick_true ?_
      refine l_move ?_
      refine l_off ?_
      refine l_off ?_
      refine l_off ?_
      refine l_pick_true ?_
      refine k_nil ?_
      exact k_out [(1005, 1005)] hB h
    refine l_on ?_
    refine l_fieldAddr ?_
    refine l_on ?_
    refine l_load ?_
    refine l_on ?_
    refine l_call h (fun _ => name_Is_ok) (fun v3 _ h => ?_)
    refine l_on ?_
    refine l_un ?_
    refine l_pick_false ?_
    refine l_move ?_
    refine l_split h (fun _ h => ?_) (fun _ h => ?_)
    · refine l_off ?_
      refine l_off ?_
      refine l_off ?_
      refine l_off ?_
      refine l_pick_true ?_
      refine l_move ?_
      refine l_off ?_
      refine l_off ?_
      refine l_off ?_
      refine l_pick_true ?_
      refine k_nil ?_
      exact k_out [(1005, 1005)] hB h
    refine l_on ?_
    refine l_fieldAddr ?_
    refine l_on ?_
    refine l_load ?_
    refine l_on ?_
    refine l_call h (fun _ => doc_prefix_ok) (fun v4 _ h => ?_)
    refine l_to [(1005, 1005)] ⟨[(0, .vs l.length (F c_TNode l)), (1, I n), (5, .ptr 1005 0), (39, B false), (42, B v4)], [(1005, .box 89 [I v1.Kind, I v1.Parent, S v1.Prefix, S v1.Local, S v1.URI, S v1.Text, .vs v1.Decls.length (F c_TDecl v1.Decls), .vs v1.Attrs.length (F c_TAttr v1.Attrs)])], []⟩ hB ?_
    refine l_on ?_
    refine l_un ?_
    refine l_pick_false ?_
    refine l_move ?_
    refine l_split h (fun _ h => ?_) (fun _ h => ?_)
    · refine l_off ?_
      refine l_off ?_
      refine l_off ?_
      refine l_pick_true ?_
      refine k_nil ?_
      exact k_out [(1005, 1005)] hB h
    refine l_on ?_
    refine l_fieldAddr ?_
    refine l_on ?_
    refine l_load ?_
    refine l_on ?_
    refine l_seq ?_
    refine l_pick_false ?_
    refine k_nil ?_
    exact k_out [(1005, 1005)] hB h
  refine f_t ?_
  refine k_if h (fun _ h => ?_) (fun _ h => ?_)
  · refine k_seq ?_
    refine k_reg ?_
    refine l_assign ?_
    refine k_nil ?_
    refine f_t ?_
    refine k_retc ?_
    refine f_tr ?_
    apply k_ret [] hB h
  refine k_skip ?_
  refine f_t ?_
  refine k_seq ?_
  refine k_seq ?_
  refine k_reg ?_
  refine l_fieldAddr ?_
  refine l_load ?_
  refine l_len ?_
  refine l_move ?_
  refine k_nil ?_
  refine f_t ?_
  refine k_block ?_
  refine k_loop (fun y6 => ⟨[(0, .vs l.length (F c_TNode l)), (1, I n), (5, .ptr 1005 0), (51, .vs v1.Attrs.length (F c_TAttr v1.Attrs)), (52, I (v1.Attrs.length : Int)), (53, I y6)], [(1005, .box 89 [I v1.Kind, I v1.Parent, S v1.Prefix, S v1.Local, S v1.URI, S v1.Text, .vs v1.Decls.length (F c_TDecl v1.Decls), .vs v1.Attrs.length (F c_TAttr v1.Attrs)])], []⟩) (Sum.elim (fun q21 => (.ret, ⟨[(4, B false)], [], []⟩)) (fun q22 => (.exit 0, ⟨[], [], []⟩))) [(1005, 1005)] hB h (fun y6 t h => ?_) (fun q h => ?_)
  · unfold doc_named_b1 at h
    refine k_seq ?_
    refine k_reg ?_
    refine l_cmp ?_
    refine k_nil ?_
    refine f_t ?_
    refine k_seq ?_
    refine k_if h (fun _ h => ?_) (fun _ h => ?_)
    · refine k_skip ?_
      refine f_t ?_
      refine k_seq ?_
      refine k_block ?_
      refine k_seq ?_
      refine k_reg ?_
      refine l_move ?_
      refine l_at h (fun v7 _ h => ?_)
      refine l_load_agg ?_
      refine l_alloc ?_
      refine l_assign ?_
      refine l_store_box ?_
      refine k_nil ?_
      refine f_t ?_
      refine k_seq ?_
      refine k_reg ?_
      refine l_move ?_
      refine l_move ?_
      refine l_fieldAddr ?_
      refine l_load ?_
      refine l_call h (fun _ => doc_means_ok) (fun v8 _ h => ?_)
      refine l_move ?_
      refine l_extract ?_
      refine l_extract ?_
      refine l_assign ?_
      refine l_assign ?_
      refine k_nil ?_
      refine f_t ?_
      refine k_seq ?_
      refine k_seq ?_
      refine k_reg ?_
      refine l_fieldAddr ?_
      refine l_load ?_
      refine l_seq ?_
      refine k_nil ?_
      refine f_t ?_
      refine k_if h (fun _ h => ?_) (fun _ h => ?_)
      · refine k_reg ?_
        refine l_assign ?_
        refine k_nil ?_
        refine f_t ?_
        refine k_seq ?_
        refine k_reg ?_
        refine l_fieldAddr ?_
        refine l_load ?_
        refine l_move ?_
        refine l_subf h (fun v9 _ h => ?_)
        refine l_makeFunc ?_
        refine l_callB h (fun _ => slices_ContainsFunc_Attr_ok (fun h => doc_named_c1_ok h) ⟨rfl, rfl⟩) (fun v10 _ h => ?_)
        refine l_assign ?_
        refine k_nil ?_
        refine f_t ?_
        refine k_seq ?_
        refine k_reg ?_
        refine l_move ?_
        refine l_move ?_
        refine l_split h (fun _ h => ?_) (fun _ h => ?_)
        · refine l_off ?_
          refine l_off ?_
          refine l_pick_true ?_
          refine l_move ?_
          refine l_off ?_
          refine l_off ?_
          refine l_off ?_
          refine l_off ?_
          refine l_pick_true ?_
          refine l_move ?_
          refine l_off ?_
          refine l_off ?_
          refine l_off ?_
          refine l_off ?_
          refine l_pick_true ?_
          refine l_move ?_
          refine l_off ?_
          refine l_off ?_
          refine l_off ?_
          refine l_off ?_
          refine l_pick_true ?_
          refine l_move ?_
          refine l_off ?_
          refine l_off ?_
          refine l_off ?_
          refine l_pick_true ?_
          refine l_move ?_
          refine l_off ?_
          refine l_off ?_
          refine l_off ?_
          refine l_off ?_
          refine l_off ?_
          refine l_off ?_
          refine l_off ?_
          refine l_off ?_
          refine l_pick_true ?_
          refine l_move ?_
          refine l_off ?_
          refine l_off ?_
          refine l_off ?_
          refine l_off ?_
          refine l_pick_true ?_
          refine k_nil ?_
          refine f_t ?_
          refine k_t ?_
          refine k_seq ?_
          refine k_reg ?_
          refine l_assign ?_
          refine k_nil ?_
          refine f_t ?_
          refine k_retc ?_
          refine f_br ?_
          refine f_tr ?_
          exact k_brk [] hB h
        refine l_on ?_
        refine l_move ?_
        refine l_on ?_
        refine l_un ?_
        refine l_pick_false ?_
        refine l_move ?_
        refine l_split h (fun _ h => ?_) (fun _ h => ?_)
        · refine l_off ?_
          refine l_off ?_
          refine l_off ?_
          refine l_off ?_
          refine l_pick_true ?_
          refine l_move ?_
          refine l_off ?_
          refine l_off ?_
          refine l_off ?_
          refine l_off ?_
          refine l_pick_true ?_
          refine l_move ?_
          refine l_off ?_
          refine l_off ?_
          refine l_off ?_
          refine l_off ?_
          refine l_pick_true ?_
          refine l_move ?_
          refine l_off ?_
          refine l_off ?_
          refine l_off ?_
          refine l_pick_true ?_
          refine l_move ?_
          refine l_off ?_
          refine l_off ?_
          refine l_off ?_
          refine l_off ?_
          refine l_off ?_
          refine l_off ?_
          refine l_off ?_
          refine l_off ?_
          refine l_pick_true ?_
          refine l_move ?_
          refine l_off ?_
          refine l_off ?_
          refine l_off ?_
          refine l_off ?_
          refine l_pick_true ?_
          refine k_nil ?_
          refine f_t ?_
          refine k_t ?_
          refine k_seq ?_
          refine k_reg ?_
          refine l_assign ?_
          refine k_nil ?_
          refine f_t ?_
          refine k_retc ?_
          refine f_br ?_
          refine f_tr ?_
          exact k_brk [] hB h
        refine l_on ?_
        refine l_move ?_
        refine l_on ?_
        refine l_fieldAddr ?_
        refine l_on ?_
        refine l_load ?_
        refine l_on ?_
        refine l_sne ?_
        refine l_pick_false ?_
        refine l_move ?_
        refine l_split h (fun _ h => ?_) (fun _ h => ?_)
        · refine l_off ?_
          refine l_off ?_
          refine l_off ?_
          refine l_off ?_
          refine l_pick_true ?_
          refine l_move ?_
          refine l_off ?_
          refine l_off ?_
          refine l_off ?_
          refine l_off ?_
          refine l_pick_true ?_
          refine l_move ?_
          refine l_off ?_
          refine l_off ?_
          refine l_off ?_
          refine l_pick_true ?_
          refine l_move ?_
          refine l_off ?_
          refine l_off ?_
          refine l_off ?_
          refine l_off ?_
          refine l_off ?_
          refine l_off ?_
          refine l_off ?_
          refine l_off ?_
          refine l_pick_true ?_
          refine l_move ?_
          refine l_off ?_
          refine l_off ?_
          refine l_off ?_
          refine l_off ?_
          refine l_pick_true ?_
          refine k_nil ?_
          refine f_t ?_
          refine k_t ?_
          refine k_seq ?_
          refine k_reg ?_
          refine l_assign ?_
          refine k_nil ?_
          refine f_t ?_
          refine k_retc ?_
          refine f_br ?_
          refine f_tr ?_
          exact k_brk [] hB h
        refine l_on ?_
        refine l_fieldAddr ?_
        refine l_on ?_
        refine l_load ?_
        refine l_on ?_
        refine l_call h (fun _ => name_Is_ok) (fun v11 _ h => ?_)
        refine l_on ?_
        refine l_un ?_
        refine l_pick_false ?_
        refine l_move ?_
        refine l_split h (fun _ h => ?_) (fun _ h => ?_)
        · refine l_off ?_
          refine l_off ?_
          refine l_off ?_
          refine l_off ?_
          refine l_pick_true ?_
          refine l_move ?_
          refine l_off ?_
          refine l_off ?_
          refine l_off ?_
          refine l_pick_true ?_
          refine l_move ?_
          refine l_off ?_
          refine l_off ?_
          refine l_off ?_
          refine l_off ?_
          refine l_off ?_
          refine l_off ?_
          refine l_off ?_
          refine l_off ?_
          refine l_pick_true ?_
          refine l_move ?_
          refine l_off ?_
          refine l_off ?_
          refine l_off ?_
          refine l_off ?_
          refine l_pick_true ?_
          refine k_nil ?_
          refine f_t ?_
          refine k_t ?_
          refine k_seq ?_
          refine k_reg ?_
          refine l_assign ?_
          refine k_nil ?_
          refine f_t ?_
          refine k_retc ?_
          refine f_br ?_
          refine f_tr ?_
          exact k_brk [] hB h
        refine l_on ?_
        refine l_fieldAddr ?_
        refine l_on ?_
        refine l_load ?_
        refine l_on ?_
        refine l_call h (fun _ => doc_prefix_ok) (fun v12 _ h => ?_)
        refine l_to [(1005, 1005), (1009, 1009)] ⟨[(0, .vs l.length (F c_TNode l)), (1, I n), (5, .ptr 1005 0), (9, .ptr 1009 0), (51, .vs v1.Attrs.length (F c_TAttr v1.Attrs)), (52, I (v1.Attrs.length : Int)), (53, I y6), (77, B v8.2), (78, B (!v8.2)), (81, S []), (82, .ptr 1009 2), (83, S v7.URI), (84, B (!([] == v7.URI))), (87, .ptr 1009 1), (88, S v7.Local), (89, B v11), (90, B (!v11)), (92, B false), (93, .ptr 1009 0), (94, S v7.Prefix), (95, B v12)], [(1005, .box 89 [I v1.Kind, I v1.Parent, S v1.Prefix, S v1.Local, S v1.URI, S v1.Text, .vs v1.Decls.length (F c_TDecl v1.Decls), .vs v1.Attrs.length (F c_TAttr v1.Attrs)]), (1009, .box 120 [S v7.Prefix, S v7.Local, S v7.URI, S v7.Value])], []⟩ hB ?_
        refine l_on ?_
        refine l_un ?_
        refine l_pick_false ?_
        refine l_move ?_
        refine l_split h (fun _ h => ?_) (fun _ h => ?_)
        · refine l_off ?_
          refine l_off ?_
          refine l_off ?_
          refine l_pick_true ?_
          refine l_move ?_
          refine l_off ?_
          refine l_off ?_
          refine l_off ?_
          refine l_off ?_
          refine l_off ?_
          refine l_off ?_
          refine l_off ?_
          refine l_off ?_
          refine l_pick_true ?_
          refine l_move ?_
          refine l_off ?_
          refine l_off ?_
          refine l_off ?_
          refine l_off ?_
          refine l_pick_true ?_
          refine k_nil ?_
          refine f_t ?_
          refine k_t ?_
          refine k_seq ?_
          refine k_reg ?_
          refine l_assign ?_
          refine k_nil ?_
          refine f_t ?_
          refine k_retc ?_
          refine f_br ?_
          refine f_tr ?_
          exact k_brk [] hB h
        refine l_on ?_
        refine l_fieldAddr ?_
        refine l_on ?_
        refine l_load ?_
        refine l_on ?_
        refine l_seq ?_
        refine l_pick_false ?_
        refine l_move ?_
        refine l_split h (fun _ h => ?_) (fun _ h => ?_)
        · refine l_off ?_
          refine l_off ?_
          refine l_off ?_
          refine l_off ?_
          refine l_off ?_
          refine l_off ?_
          refine l_off ?_
          refine l_off ?_
          refine l_pick_true ?_
          refine l_move ?_
          refine l_off ?_
          refine l_off ?_
          refine l_off ?_
          refine l_off ?_
          refine l_pick_true ?_
          refine k_nil ?_
          refine f_t ?_
          refine k_t ?_
          refine k_seq ?_
          refine k_reg ?_
          refine l_assign ?_
          refine k_nil ?_
          refine f_t ?_
          refine k_retc ?_
          refine f_br ?_
          refine f_tr ?_
          exact k_brk [] hB h
        refine l_on ?_
        refine l_fieldAddr ?_
        refine l_on ?_
        refine l_load ?_
        refine l_on ?_
        refine l_seq ?_
        refine l_on ?_
        refine l_move ?_
        refine l_split h (fun _ h => ?_) (fun _ h => ?_)
        · refine l_on ?_
          refine l_fieldAddr ?_
          refine l_on ?_
          refine l_load ?_
          refine l_on ?_
          refine l_seq ?_
          refine l_on ?_
          refine l_pick_true ?_
          refine l_pick_false ?_
          refine l_move ?_
          refine l_split h (fun _ h => ?_) (fun _ h => ?_)
          · refine l_off ?_
            refine l_off ?_
            refine l_off ?_
            refine l_off ?_
            refine l_pick_true ?_
            refine k_nil ?_
            refine f_t ?_
            refine k_t ?_
            refine k_seq ?_
            refine k_reg ?_
            refine l_assign ?_
            refine k_nil ?_
            refine f_t ?_
            refine k_retc ?_
            refine f_br ?_
            refine f_tr ?_
            exact k_brk [] hB h
          refine l_on ?_
          refine l_fieldAddr ?_
          refine l_on ?_
          refine l_load ?_
          refine l_on ?_
          refine l_call h (fun _ => doc_text_ok) (fun v13 _ h => ?_)
          refine l_on ?_
          refine l_un ?_
          refine l_pick_false ?_
          refine k_nil ?_
          refine f_t ?_
          refine k_if h (fun _ h => ?_) (fun _ h => ?_)
          · refine k_seq ?_
            refine k_reg ?_
            refine l_assign ?_
            refine k_nil ?_
            refine f_t ?_
            refine k_retc ?_
            refine f_br ?_
            refine f_tr ?_
            exact k_brk [] hB h
          refine k_skip ?_
          refine f_b ?_
          refine f_t ?_
          refine k_reg ?_
          refine l_addw ?_
          refine l_move ?_
          refine k_nil ?_
          exact k_next [(1005, 1005)] hB h
        refine l_off ?_
        refine l_off ?_
        refine l_off ?_
        refine l_on ?_
        refine l_pick_false ?_
        refine l_pick_false ?_
        refine l_move ?_
        refine l_on ?_
        refine l_fieldAddr ?_
        refine l_on ?_
        refine l_load ?_
        refine l_on ?_
        refine l_call h (fun _ => doc_text_ok) (fun v14 _ h => ?_)
        refine l_on ?_
        refine l_un ?_
        refine l_pick_false ?_
        refine k_nil ?_
        refine f_t ?_
        refine k_if h (fun _ h => ?_) (fun _ h => ?_)
        · refine k_seq ?_
          refine k_reg ?_
          refine l_assign ?_
          refine k_nil ?_
          refine f_t ?_
          refine k_retc ?_
          refine f_br ?_
          refine f_tr ?_
          exact k_brk [] hB h
        refine k_skip ?_
        refine f_b ?_
        refine f_t ?_
        refine k_reg ?_
        refine l_addw ?_
        refine l_move ?_
        refine k_nil ?_
        exact k_next [(1005, 1005)] hB h
      refine k_skip ?_
      refine f_t ?_
      refine k_seq ?_
      refine k_reg ?_
      refine l_fieldAddr ?_
      refine l_load ?_
      refine l_move ?_
      refine l_subf h (fun v15 _ h => ?_)
      refine l_makeFunc ?_
      refine l_callB h (fun _ => slices_ContainsFunc_Attr_ok (fun h => doc_named_c1_ok h) ⟨rfl, rfl⟩) (fun v16 _ h => ?_)
      refine l_assign ?_
      refine k_nil ?_
      refine f_t ?_
      refine k_seq ?_
      refine k_reg ?_
      refine l_move ?_
      refine l_move ?_
      refine l_split h (fun _ h => ?_) (fun _ h => ?_)
      · refine l_off ?_
        refine l_off ?_
        refine l_pick_true ?_
        refine l_move ?_
        refine l_off ?_
        refine l_off ?_
        refine l_off ?_
        refine l_off ?_
        refine l_pick_true ?_
        refine l_move ?_
        refine l_off ?_
        refine l_off ?_
        refine l_off ?_
        refine l_off ?_
        refine l_pick_true ?_
        refine l_move ?_
        refine l_off ?_
        refine l_off ?_
        refine l_off ?_
        refine l_off ?_
        refine l_pick_true ?_
        refine l_move ?_
        refine l_off ?_
        refine l_off ?_
        refine l_off ?_
        refine l_pick_true ?_
        refine l_move ?_
        refine l_off ?_
        refine l_off ?_
        refine l_off ?_
        refine l_off ?_
        refine l_off ?_
        refine l_off ?_
        refine l_off ?_
        refine l_off ?_
        refine l_pick_true ?_
        refine l_move ?_
        refine l_off ?_
        refine l_off ?_
        refine l_off ?_
        refine l_off ?_
        refine l_pick_true ?_
        refine k_nil ?_
        refine f_t ?_
        refine k_t ?_
        refine k_seq ?_
        refine k_reg ?_
        refine l_assign ?_
        refine k_nil ?_
        refine f_t ?_
        refine k_retc ?_
        refine f_br ?_
        refine f_tr ?_
        exact k_brk [] hB h
      refine l_on ?_
      refine l_move ?_
      refine l_on ?_
      refine l_un ?_
      refine l_pick_false ?_
      refine l_move ?_
      refine l_split h (fun _ h => ?_) (fun _ h => ?_)
      · refine l_off ?_
        refine l_off ?_
        refine l_off ?_
        refine l_off ?_
        refine l_pick_true ?_
        refine l_move ?_
        refine l_off ?_
        refine l_off ?_
        refine l_off ?_
        refine l_off ?_
        refine l_pick_true ?_
        refine l_move ?_
        refine l_off ?_
        refine l_off ?_
        refine l_off ?_
        refine l_off ?_
        refine l_pick_true ?_
        refine l_move ?_
        refine l_off ?_
        refine l_off ?_
        refine l_off ?_
        refine l_pick_true ?_
        refine l_move ?_
        refine l_off ?_
        refine l_off ?_
        refine l_off ?_
        refine l_off ?_
        refine l_off ?_
        refine l_off ?_
        refine l_off ?_
        refine l_off ?_
        refine l_pick_true ?_
        refine l_move ?_
        refine l_off ?_
        refine l_off ?_
        refine l_off ?_
        refine l_off ?_
        refine l_pick_true ?_
        refine k_nil ?_
        refine f_t ?_
        refine k_t ?_
        refine k_seq ?_
        refine k_reg ?_
        refine l_assign ?_
        refine k_nil ?_
        refine f_t ?_
        refine k_retc ?_
        refine f_br ?_
        refine f_tr ?_
        exact k_brk [] hB h
      refine l_on ?_
      refine l_move ?_
      refine l_on ?_
      refine l_fieldAddr ?_
      refine l_on ?_
      refine l_load ?_
      refine l_on ?_
      refine l_sne ?_
      refine l_pick_false ?_
      refine l_move ?_
      refine l_split h (fun _ h => ?_) (fun _ h => ?_)
      · refine l_off ?_
        refine l_off ?_
        refine l_off ?_
        refine l_off ?_
        refine l_pick_true ?_
        refine l_move ?_
        refine l_off ?_
        refine l_off ?_
        refine l_off ?_
        refine l_off ?_
        refine l_pick_true ?_
        refine l_move ?_
        refine l_off ?_
        refine l_off ?_
        refine l_off ?_
        refine l_pick_true ?_
        refine l_move ?_
        refine l_off ?_
        refine l_off ?_
        refine l_off ?_
        refine l_off ?_
        refine l_off ?_
        refine l_off ?_
        refine l_off ?_
        refine l_off ?_
        refine l_pick_true ?_
        refine l_move ?_
        refine l_off ?_
        refine l_off ?_
        refine l_off ?_
        refine l_off ?_
        refine l_pick_true ?_
        refine k_nil ?_
        refine f_t ?_
        refine k_t ?_
        refine k_seq ?_
        refine k_reg ?_
        refine l_assign ?_
        refine k_nil ?_
        refine f_t ?_
        refine k_retc ?_
        refine f_br ?_
        refine f_tr ?_
        exact k_brk [] hB h
      refine l_on ?_
      refine l_fieldAddr ?_
      refine l_on ?_
      refine l_load ?_
      refine l_on ?_
      refine l_call h (fun _ => name_Is_ok) (fun v17 _ h => ?_)
      refine l_on ?_
      refine l_un ?_
      refine l_pick_false ?_
      refine l_move ?_
      refine l_split h (fun _ h => ?_) (fun _ h => ?_)
      · refine l_off ?_
        refine l_off ?_
        refine l_off ?_
        refine l_off ?_
        refine l_pick_true ?_
        refine l_move ?_
        refine l_off ?_
        refine l_off ?_
        refine l_off ?_
        refine l_pick_true ?_
        refine l_move ?_
        refine l_off ?_
        refine l_off ?_
        refine l_off ?_
        refine l_off ?_
        refine l_off ?_
        refine l_off ?_
        refine l_off ?_
        refine l_off ?_
        refine l_pick_true ?_
        refine l_move ?_
        refine l_off ?_
        refine l_off ?_
        refine l_off ?_
        refine l_off ?_
        refine l_pick_true ?_
        refine k_nil ?_
        refine f_t ?_
        refine k_t ?_
        refine k_seq ?_
        refine k_reg ?_
        refine l_assign ?_
        refine k_nil ?_
        refine f_t ?_
        refine k_retc ?_
        refine f_br ?_
        refine f_tr ?_
        exact k_brk [] hB h
      refine l_on ?_
      refine l_fieldAddr ?_
      refine l_on ?_
      refine l_load ?_
      refine l_on ?_
      refine l_call h (fun _ => doc_prefix_ok) (fun v18 _ h => ?_)
      refine l_to [(1005, 1005), (1009, 1009)] ⟨[(0, .vs l.length (F c_TNode l)), (1, I n), (5, .ptr 1005 0), (9, .ptr 1009 0), (51, .vs v1.Attrs.length (F c_TAttr v1.Attrs)), (52, I (v1.Attrs.length : Int)), (53, I y6), (77, B v8.2), (78, B (!v8.2)), (81, S v8.1), (82, .ptr 1009 2), (83, S v7.URI), (84, B (!(v8.1 == v7.URI))), (87, .ptr 1009 1), (88, S v7.Local), (89, B v17), (90, B (!v17)), (92, B false), (93, .ptr 1009 0), (94, S v7.Prefix), (95, B v18)], [(1005, .box 89 [I v1.Kind, I v1.Parent, S v1.Prefix, S v1.Local, S v1.URI, S v1.Text, .vs v1.Decls.length (F c_TDecl v1.Decls), .vs v1.Attrs.length (F c_TAttr v1.Attrs)]), (1009, .box 120 [S v7.Prefix, S v7.Local, S v7.URI, S v7.Value])], []⟩ hB ?_
      refine l_on ?_
      refine l_un ?_
      refine l_pick_false ?_
      refine l_move ?_
      refine l_split h (fun _ h => ?_) (fun _ h => ?_)
      · refine l_off ?_
        refine l_off ?_
        refine l_off ?_
        refine l_pick_true ?_
        refine l_move ?_
        refine l_off ?_
        refine l_off ?_
        refine l_off ?_
        refine l_off ?_
        refine l_off ?_
        refine l_off ?_
        refine l_off ?_
        refine l_off ?_
        refine l_pick_true ?_
        refine l_move ?_
        refine l_off ?_
        refine l_off ?_
        refine l_off ?_
        refine l_off ?_
        refine l_pick_true ?_
        refine k_nil ?_
        refine f_t ?_
        refine k_t ?_
        refine k_seq ?_
        refine k_reg ?_
        refine l_assign ?_
        refine k_nil ?_
        refine f_t ?_
        refine k_retc ?_
        refine f_br ?_
        refine f_tr ?_
        exact k_brk [] hB h
      refine l_on ?_
      refine l_fieldAddr ?_
      refine l_on ?_
      refine l_load ?_
      refine l_on ?_
      refine l_seq ?_
      refine l_pick_false ?_
      refine l_move ?_
      refine l_split h (fun _ h => ?_) (fun _ h => ?_)
      · refine l_off ?_
        refine l_off ?_
        refine l_off ?_
        refine l_off ?_
        refine l_off ?_
        refine l_off ?_
        refine l_off ?_
        refine l_off ?_
        refine l_pick_true ?_
        refine l_move ?_
        refine l_off ?_
        refine l_off ?_
        refine l_off ?_
        refine l_off ?_
        refine l_pick_true ?_
        refine k_nil ?_
        refine f_t ?_
        refine k_t ?_
        refine k_seq ?_
        refine k_reg ?_
        refine l_assign ?_
        refine k_nil ?_
        refine f_t ?_
        refine k_retc ?_
        refine f_br ?_
        refine f_tr ?_
        exact k_brk [] hB h
      refine l_on ?_
      refine l_fieldAddr ?_
      refine l_on ?_
      refine l_load ?_
      refine l_on ?_
      refine l_seq ?_
      refine l_on ?_
      refine l_move ?_
      refine l_split h (fun _ h => ?_) (fun _ h => ?_)
      · refine l_on ?_
        refine l_fieldAddr ?_
        refine l_on ?_
        refine l_load ?_
        refine l_on ?_
        refine l_seq ?_
        refine l_on ?_
        refine l_pick_true ?_
        refine l_pick_false ?_
        refine l_move ?_
        refine l_split h (fun _ h => ?_) (fun _ h => ?_)
        · refine l_off ?_
          refine l_off ?_
          refine l_off ?_
          refine l_off ?_
          refine l_pick_true ?_
          refine k_nil ?_
          refine f_t ?_
          refine k_t ?_
          refine k_seq ?_
          refine k_reg ?_
          refine l_assign ?_
          refine k_nil ?_
          refine f_t ?_
          refine k_retc ?_
          refine f_br ?_
          refine f_tr ?_
          exact k_brk [] hB h
        refine l_on ?_
        refine l_fieldAddr ?_
        refine l_on ?_
        refine l_load ?_
        refine l_on ?_
        refine l_call h (fun _ => doc_text_ok) (fun v19 _ h => ?_)
        refine l_on ?_
        refine l_un ?_
        refine l_pick_false ?_
        refine k_nil ?_
        refine f_t ?_
        refine k_if h (fun _ h => ?_) (fun _ h => ?_)
        · refine k_seq ?_
          refine k_reg ?_
          refine l_assign ?_
          refine k_nil ?_
          refine f_t ?_
          refine k_retc ?_
          refine f_br ?_
          refine f_tr ?_
          exact k_brk [] hB h
        refine k_skip ?_
        refine f_b ?_
        refine f_t ?_
        refine k_reg ?_
        refine l_addw ?_
        refine l_move ?_
        refine k_nil ?_
        exact k_next [(1005, 1005)] hB h
      refine l_off ?_
      refine l_off ?_
      refine l_off ?_
      refine l_on ?_
      refine l_pick_false ?_
      refine l_pick_false ?_
      refine l_move ?_
      refine l_on ?_
      refine l_fieldAddr ?_
      refine l_on ?_
      refine l_load ?_
      refine l_on ?_
      refine l_call h (fun _ => doc_text_ok) (fun v20 _ h => ?_)
      refine l_on ?_
      refine l_un ?_
      refine l_pick_false ?_
      refine k_nil ?_
      refine f_t ?_
      refine k_if h (fun _ h => ?_) (fun _ h => ?_)
      · refine k_seq ?_
        refine k_reg ?_
        refine l_assign ?_
        refine k_nil ?_
        refine f_t ?_
        refine k_retc ?_
        refine f_br ?_
        refine f_tr ?_
        exact k_brk [] hB h
      refine k_skip ?_
      refine f_b ?_
      refine f_t ?_
      refine k_reg ?_
      refine l_addw ?_
      refine l_move ?_
      refine k_nil ?_
      exact k_next [(1005, 1005)] hB h
    refine k_exit ?_
    refine f_te ?_
    exact k_brk [] hB h
  rcases q with q21 | q22
  · dsimp only [Sum.elim] at h ⊢
    refine f_br ?_
    refine f_tr ?_
    apply k_ret [] hB h
  dsimp only [Sum.elim] at h ⊢
  refine f_be ?_
  refine f_t ?_
  refine k_seq ?_
  refine k_reg ?_
  refine l_assign ?_
  refine k_nil ?_
  refine f_t ?_
  refine k_retc ?_
  apply k_ret [] hB h
theorem stringslite_HasSuffix_ok {s : Str} {suffix : Str} {r : Bool} (h : stringslite_HasSuffix s suffix = some r) : XSpec Tryz.prog 214 [S s, S suffix] [] (B r) [] [] := by
  unfold stringslite_HasSuffix at h
  refine X_of_run Tryz.hU Tryz.func214 (fun _ _ _ hB => ?_)
  refine k_seq ?_
  refine k_reg ?_
  refine l_assign ?_
  refine k_nil ?_
  refine f_t ?_
  refine k_seq ?_
  refine k_reg ?_
  refine l_move ?_
  refine l_lens ?_
  refine l_move ?_
  refine l_lens ?_
  refine l_cmp ?_
  refine l_move ?_
  refine l_split h (fun _ h => ?_) (fun _ h => ?_)
  · refine l_on ?_
    refine l_move ?_
    refine l_on ?_
    refine l_move ?_
    refine l_on ?_
    refine l_lens ?_
    refine l_on ?_
    refine l_move ?_
    refine l_on ?_
    refine l_lens ?_
    refine l_on ?_
    refine l_subw ?_
    refine l_on ?_
    refine l_subs h (fun v1 _ h => ?_)
    refine l_on ?_
    refine l_move ?_
    refine l_on ?_
    refine l_seq ?_
    refine l_pick_true ?_
    refine l_assign ?_
    refine k_nil ?_
    refine f_t ?_
    refine k_retc ?_
    apply k_ret [] hB h
  refine l_off ?_
  refine l_off ?_
  refine l_off ?_
  refine l_off ?_
  refine l_off ?_
  refine l_off ?_
  refine l_off ?_
  refine l_off ?_
  refine l_off ?_
  refine l_pick_false ?_
  refine l_assign ?_
  refine k_nil ?_
  refine f_t ?_
  refine k_retc ?_
  apply k_ret [] hB h
theorem strings_HasSuffix_ok {s : Str} {suffix : Str} {r : Bool} (h : strings_HasSuffix s suffix = some r) : XSpec Tryz.prog 180 [S s, S suffix] [] (B r) [] [] := by
  unfold strings_HasSuffix at h
  refine X_of_run Tryz.hU Tryz.func180 (fun _ _ _ hB => ?_)
  refine k_seq ?_
  refine k_reg ?_
  refine l_assign ?_
  refine k_nil ?_
  refine f_t ?_
  refine k_seq ?_
  refine k_reg ?_
  refine l_move ?_
  refine l_move ?_
  refine l_call h (fun _ => stringslite_HasSuffix_ok) (fun v1 _ h => ?_)
  refine l_assign ?_
  refine k_nil ?_
  refine f_t ?_
  refine k_retc ?_
  apply k_ret [] hB h
theorem doc_target_ok {s : Str} {r : Bool} (h : doc_target s = some r) : XSpec Tryz.prog 181 [S s] [] (B r) [] [] := by
  unfold doc_target at h
  refine X_of_run Tryz.hU Tryz.func181 (fun _ _ _ hB => ?_)
  refine k_seq ?_
  refine k_reg ?_
  refine l_assign ?_
  refine k_nil ?_
  refine f_t ?_
  refine k_seq ?_
  refine k_reg ?_
  refine l_move ?_
  refine l_lens ?_
  refine l_cmp ?_
  refine l_move ?_
  refine l_split h (fun _ h => ?_) (fun _ h => ?_)
  · refine l_on ?_
    refine l_move ?_
    refine l_on ?_
    refine l_ats h (fun v1 _ h => ?_)
    refine l_on ?_
    refine l_cmp ?_
    refine l_on ?_
    refine l_move ?_
    refine l_split h (fun _ h => ?_) (fun _ h => ?_)
    · refine l_off ?_
      refine l_off ?_
      refine l_off ?_
      refine l_on ?_
      refine l_pick_true ?_
      refine l_pick_true ?_
      refine l_move ?_
      refine l_on ?_
      refine l_move ?_
      refine l_on ?_
      refine l_ats h (fun v2 _ h => ?_)
      refine l_on ?_
      refine l_cmp ?_
      refine l_on ?_
      refine l_move ?_
      refine l_split h (fun _ h => ?_) (fun _ h => ?_)
      · refine l_off ?_
        refine l_off ?_
        refine l_off ?_
        refine l_on ?_
        refine l_pick_true ?_
        refine l_pick_true ?_
        refine l_move ?_
        refine l_on ?_
        refine l_move ?_
        refine l_on ?_
        refine l_ats h (fun v3 _ h => ?_)
        refine l_on ?_
        refine l_cmp ?_
        refine l_on ?_
        refine l_move ?_
        refine l_split h (fun _ h => ?_) (fun _ h => ?_)
        · refine l_off ?_
          refine l_off ?_
          refine l_off ?_
          refine l_on ?_
          refine l_pick_true ?_
          refine l_pick_true ?_
          refine l_assign ?_
          refine k_nil ?_
          refine f_t ?_
          refine k_retc ?_
          apply k_ret [] hB h
        refine l_on ?_
        refine l_move ?_
        refine l_on ?_
        refine l_ats h (fun v4 _ h => ?_)
        refine l_on ?_
        refine l_cmp ?_
        refine l_on ?_
        refine l_pick_false ?_
        refine l_pick_true ?_
        refine l_assign ?_
        refine k_nil ?_
        refine f_t ?_
        refine k_retc ?_
        apply k_ret [] hB h
      refine l_on ?_
      refine l_move ?_
      refine l_on ?_
      refine l_ats h (fun v5 _ h => ?_)
      refine l_on ?_
      refine l_cmp ?_
      refine l_on ?_
      refine l_pick_false ?_
      refine l_pick_true ?_
      refine l_move ?_
      refine l_split h (fun _ h => ?_) (fun _ h => ?_)
      · refine l_on ?_
        refine l_move ?_
        refine l_on ?_
        refine l_ats h (fun v6 _ h => ?_)
        refine l_on ?_
        refine l_cmp ?_
        refine l_on ?_
        refine l_move ?_
        refine l_split h (fun _ h => ?_) (fun _ h => ?_)
        · refine l_off ?_
          refine l_off ?_
          refine l_off ?_
          refine l_on ?_
          refine l_pick_true ?_
          refine l_pick_true ?_
          refine l_assign ?_
          refine k_nil ?_
          refine f_t ?_
          refine k_retc ?_
          apply k_ret [] hB h
        refine l_on ?_
        refine l_move ?_
        refine l_on ?_
        refine l_ats h (fun v7 _ h => ?_)
        refine l_on ?_
        refine l_cmp ?_
        refine l_on ?_
        refine l_pick_false ?_
        refine l_pick_true ?_
        refine l_assign ?_
        refine k_nil ?_
        refine f_t ?_
        refine k_retc ?_
        apply k_ret [] hB h
      refine l_off ?_
      refine l_off ?_
      refine l_off ?_
      refine l_off ?_
      refine l_off ?_
      refine l_off ?_
      refine l_off ?_
      refine l_off ?_
      refine l_pick_false ?_
      refine l_assign ?_
      refine k_nil ?_
      refine f_t ?_
      refine k_retc ?_
      apply k_ret [] hB h
    refine l_on ?_
    refine l_move ?_
    refine l_on ?_
    refine l_ats h (fun v8 _ h => ?_)
    refine l_on ?_
    refine l_cmp ?_
    refine l_on ?_
    refine l_pick_false ?_
    refine l_pick_true ?_
    refine l_move ?_
    refine l_split h (fun _ h => ?_) (fun _ h => ?_)
    · refine l_on ?_
      refine l_move ?_
      refine l_on ?_
      refine l_ats h (fun v9 _ h => ?_)
      refine l_on ?_
      refine l_cmp ?_
      refine l_on ?_
      refine l_move ?_
      refine l_split h (fun _ h => ?_) (fun _ h => ?_)
      · refine l_off ?_
        refine l_off ?_
        refine l_off ?_
        refine l_on ?_
        refine l_pick_true ?_
        refine l_pick_true ?_
        refine l_move ?_
        refine l_on ?_
        refine l_move ?_
        refine l_on ?_
        refine l_ats h (fun v10 _ h => ?_)
        refine l_on ?_
        refine l_cmp ?_
        refine l_on ?_
        refine l_move ?_
        refine l_split h (fun _ h => ?_) (fun _ h => ?_)
        · refine l_off ?_
          refine l_off ?_
          refine l_off ?_
          refine l_on ?_
          refine l_pick_true ?_
          refine l_pick_true ?_
          refine l_assign ?_
          refine k_nil ?_
          refine f_t ?_
          refine k_retc ?_
          apply k_ret [] hB h
        refine l_on ?_
        refine l_move ?_
        refine l_on ?_
        refine l_ats h (fun v11 _ h => ?_)
        refine l_on ?_
        refine l_cmp ?_
        refine l_on ?_
        refine l_pick_false ?_
        refine l_pick_true ?_
        refine l_assign ?_
        refine k_nil ?_
        refine f_t ?_
        refine k_retc ?_
        apply k_ret [] hB h
      refine l_on ?_
      refine l_move ?_
      refine l_on ?_
      refine l_ats h (fun v12 _ h => ?_)
      refine l_on ?_
      refine l_cmp ?_
      refine l_on ?_
      refine l_pick_false ?_
      refine l_pick_true ?_
      refine l_move ?_
      refine l_split h (fun _ h => ?_) (fun _ h => ?_)
      · refine l_on ?_
        refine l_move ?_
        refine l_on ?_
        refine l_ats h (fun v13 _ h => ?_)
        refine l_on ?_
        refine l_cmp ?_
        refine l_on ?_
        refine l_move ?_
        refine l_split h (fun _ h => ?_) (fun _ h => ?_)
        · refine l_off ?_
          refine l_off ?_
          refine l_off ?_
          refine l_on ?_
          refine l_pick_true ?_
          refine l_pick_true ?_
          refine l_assign ?_
          refine k_nil ?_
          refine f_t ?_
          refine k_retc ?_
          apply k_ret [] hB h
        refine l_on ?_
        refine l_move ?_
        refine l_on ?_
        refine l_ats h (fun v14 _ h => ?_)
        refine l_on ?_
        refine l_cmp ?_
        refine l_on ?_
        refine l_pick_false ?_
        refine l_pick_true ?_
        refine l_assign ?_
        refine k_nil ?_
        refine f_t ?_
        refine k_retc ?_
        apply k_ret [] hB h
      refine l_off ?_
      refine l_off ?_
      refine l_off ?_
      refine l_off ?_
      refine l_off ?_
      refine l_off ?_
      refine l_off ?_
      refine l_off ?_
      refine l_pick_false ?_
      refine l_assign ?_
      refine k_nil ?_
      refine f_t ?_
      refine k_retc ?_
      apply k_ret [] hB h
    refine l_off ?_
    refine l_off ?_
    refine l_off ?_
    refine l_off ?_
    refine l_off ?_
    refine l_off ?_
    refine l_off ?_
    refine l_off ?_
    refine l_pick_false ?_
    refine l_move ?_
    refine l_off ?_
    refine l_off ?_
    refine l_off ?_
    refine l_off ?_
    refine l_off ?_
    refine l_off ?_
    refine l_off ?_
    refine l_off ?_
    refine l_pick_false ?_
    refine l_assign ?_
    refine k_nil ?_
    refine f_t ?_
    refine k_retc ?_
    apply k_ret [] hB h
  refine l_off ?_
  refine l_off ?_
  refine l_off ?_
  refine l_off ?_
  refine l_off ?_
  refine l_off ?_
  refine l_off ?_
  refine l_off ?_
  refine l_pick_false ?_
  refine l_move ?_
  refine l_off ?_
  refine l_off ?_
  refine l_off ?_
  refine l_off ?_
  refine l_off ?_
  refine l_off ?_
  refine l_off ?_
  refine l_off ?_
  refine l_pick_false ?_
  refine l_move ?_
  refine l_off ?_
  refine l_off ?_
  refine l_off ?_
  refine l_off ?_
  refine l_off ?_
  refine l_off ?_
  refine l_off ?_
  refine l_off ?_
  refine l_pick_false ?_
  refine l_assign ?_
  refine k_nil ?_
  refine f_t ?_
  refine k_retc ?_
  apply k_ret [] hB h
theorem doc_formed_ok {l : (List TNode)} {n : Int} {last : Int} {r : Bool} (h : doc_formed l n last = some r) : XSpec Tryz.prog 137 [.vs l.length (F c_TNode l), I n, I last] [] (B r) [] [] := by
  unfold doc_formed at h
  refine X_of_run Tryz.hU Tryz.func137 (fun _ _ _ hB => ?_)
  refine k_seq ?_
  refine k_reg ?_
  refine l_assign ?_
  refine k_nil ?_
  refine f_t ?_
  refine k_seq ?_
  refine k_reg ?_
  refine l_move ?_
  refine l_move ?_
  refine l_at h (fun v1 _ h => ?_)
  refine l_load_agg ?_
  refine l_alloc ?_
  refine l_store_box ?_
  refine k_nil ?_
  refine f_t ?_
  refine k_seq ?_
  refine k_seq ?_
  refine k_reg ?_
  refine l_fieldAddr ?_
  refine l_load ?_
  refine k_nil ?_
  refine f_t ?_
  refine k_block ?_
  refine k_seq ?_
  refine k_reg ?_
  refine l_cmp ?_
  refine l_assign ?_
  refine k_nil ?_
  refine f_t ?_
  refine k_if h (fun _ h => ?_) (fun _ h => ?_)
  · refine k_seq ?_
    refine k_reg ?_
    refine l_fieldAddr ?_
    refine l_load ?_
    refine l_seq ?_
    refine l_move ?_
    refine l_split h (fun _ h => ?_) (fun _ h => ?_)
    · refine l_on ?_
      refine l_fieldAddr ?_
      refine l_on ?_
      refine l_load ?_
      refine l_on ?_
      refine l_call h (fun _ => doc_declared_ok) (fun v2 _ h => ?_)
      refine l_pick_true ?_
      refine l_move ?_
      refine l_split h (fun _ h => ?_) (fun _ h => ?_)
      · refine l_on ?_
        refine l_move ?_
        refine l_on ?_
        refine l_move ?_
        refine l_on ?_
        refine l_call h (fun _ => doc_named_ok) (fun v3 _ h => ?_)
        refine l_to [] ⟨[(25, B true), (28, B v3)], [], []⟩ hB ?_
        refine l_pick_true ?_
        refine l_assign ?_
        refine k_nil ?_
        refine f_t ?_
        refine k_retc ?_
        refine f_br ?_
        refine f_tr ?_
        apply k_ret [] hB h
      refine l_off ?_
      refine l_off ?_
      refine l_off ?_
      refine l_pick_false ?_
      refine l_assign ?_
      refine k_nil ?_
      refine f_t ?_
      refine k_retc ?_
      refine f_br ?_
      refine f_tr ?_
      apply k_ret [] hB h
    refine l_off ?_
    refine l_off ?_
    refine l_off ?_
    refine l_pick_false ?_
    refine l_move ?_
    refine l_off ?_
    refine l_off ?_
    refine l_off ?_
    refine l_pick_false ?_
    refine l_assign ?_
    refine k_nil ?_
    refine f_t ?_
    refine k_retc ?_
    refine f_br ?_
    refine f_tr ?_
    apply k_ret [] hB h
  refine k_seq ?_
  refine k_reg ?_
  refine l_cmp ?_
  refine l_assign ?_
  refine k_nil ?_
  refine f_t ?_
  refine k_if h (fun _ h => ?_) (fun _ h => ?_)
  · refine k_seq ?_
    refine k_reg ?_
    refine l_load_agg ?_
    refine l_call h (fun _ => doc_bare_ok) (fun v4 _ h => ?_)
    refine l_move ?_
    refine l_split h (fun _ h => ?_) (fun _ h => ?_)
    · refine l_on ?_
      refine l_fieldAddr ?_
      refine l_on ?_
      refine l_load ?_
      refine l_on ?_
      refine l_seq ?_
      refine l_pick_true ?_
      refine l_move ?_
      refine l_split h (fun _ h => ?_) (fun _ h => ?_)
      · refine l_on ?_
        refine l_fieldAddr ?_
        refine l_on ?_
        refine l_load ?_
        refine l_on ?_
        refine l_sne ?_
        refine l_pick_true ?_
        refine l_move ?_
        refine l_split h (fun _ h => ?_) (fun _ h => ?_)
        · refine l_on ?_
          refine l_fieldAddr ?_
          refine l_on ?_
          refine l_load ?_
          refine l_on ?_
          refine l_call h (fun _ => doc_text_ok) (fun v5 _ h => ?_)
          refine l_to [] ⟨[(0, .vs l.length (F c_TNode l)), (2, I last), (44, B true), (47, B v5)], [], []⟩ hB ?_
          refine l_pick_true ?_
          refine l_move ?_
          refine l_split h (fun _ h => ?_) (fun _ h => ?_)
          · refine l_on ?_
            refine l_move ?_
            refine l_on ?_
            refine l_cmp ?_
            refine l_on ?_
            refine l_move ?_
            refine l_split h (fun _ h => ?_) (fun _ h => ?_)
            · refine l_off ?_
              refine l_off ?_
              refine l_off ?_
              refine l_off ?_
              refine l_off ?_
              refine l_off ?_
              refine l_on ?_
              refine l_pick_true ?_
              refine l_pick_true ?_
              refine l_assign ?_
              refine k_nil ?_
              refine f_t ?_
              refine k_retc ?_
              refine f_br ?_
              refine f_tr ?_
              apply k_ret [] hB h
            refine l_on ?_
            refine l_move ?_
            refine l_on ?_
            refine l_move ?_
            refine l_on ?_
            refine l_at h (fun v6 _ h => ?_)
            refine l_on ?_
            refine l_fieldAddr ?_
            refine l_on ?_
            refine l_load ?_
            refine l_on ?_
            refine l_cmp ?_
            refine l_on ?_
            refine l_pick_false ?_
            refine l_pick_true ?_
            refine l_assign ?_
            refine k_nil ?_
            refine f_t ?_
            refine k_retc ?_
            refine f_br ?_
            refine f_tr ?_
            apply k_ret [] hB h
          refine l_off ?_
          refine l_off ?_
          refine l_off ?_
          refine l_off ?_
          refine l_off ?_
          refine l_off ?_
          refine l_off ?_
          refine l_off ?_
          refine l_off ?_
          refine l_off ?_
          refine l_pick_false ?_
          refine l_assign ?_
          refine k_nil ?_
          refine f_t ?_
          refine k_retc ?_
          refine f_br ?_
          refine f_tr ?_
          apply k_ret [] hB h
        refine l_off ?_
        refine l_off ?_
        refine l_off ?_
        refine l_pick_false ?_
        refine l_move ?_
        refine l_off ?_
        refine l_off ?_
        refine l_off ?_
        refine l_off ?_
        refine l_off ?_
        refine l_off ?_
        refine l_off ?_
        refine l_off ?_
        refine l_off ?_
        refine l_off ?_
        refine l_pick_false ?_
        refine l_assign ?_
        refine k_nil ?_
        refine f_t ?_
        refine k_retc ?_
        refine f_br ?_
        refine f_tr ?_
        apply k_ret [] hB h
      refine l_off ?_
      refine l_off ?_
      refine l_off ?_
      refine l_pick_false ?_
      refine l_move ?_
      refine l_off ?_
      refine l_off ?_
      refine l_off ?_
      refine l_pick_false ?_
      refine l_move ?_
      refine l_off ?_
      refine l_off ?_
      refine l_off ?_
      refine l_off ?_
      refine l_off ?_
      refine l_off ?_
      refine l_off ?_
      refine l_off ?_
      refine l_off ?_
      refine l_off ?_
      refine l_pick_false ?_
      refine l_assign ?_
      refine k_nil ?_
      refine f_t ?_
      refine k_retc ?_
      refine f_br ?_
      refine f_tr ?_
      apply k_ret [] hB h
    refine l_off ?_
    refine l_off ?_
    refine l_off ?_
    refine l_pick_false ?_
    refine l_move ?_
    refine l_off ?_
    refine l_off ?_
    refine l_off ?_
    refine l_pick_false ?_
    refine l_move ?_
    refine l_off ?_
    refine l_off ?_
    refine l_off ?_
    refine l_pick_false ?_
    refine l_move ?_
    refine l_off ?_
    refine l_off ?_
    refine l_off ?_
    refine l_off ?_
    refine l_off ?_
    refine l_off ?_
    refine l_off ?_
    refine l_off ?_
    refine l_off ?_
    refine l_off ?_
    refine l_pick_false ?_
    refine l_assign ?_
    refine k_nil ?_
    refine f_t ?_
    refine k_retc ?_
    refine f_br ?_
    refine f_tr ?_
    apply k_ret [] hB h
  refine k_seq ?_
  refine k_reg ?_
  refine l_cmp ?_
  refine l_assign ?_
  refine k_nil ?_
  refine f_t ?_
  refine k_if h (fun _ h => ?_) (fun _ h => ?_)
  · refine k_seq ?_
    refine k_reg ?_
    refine l_load_agg ?_
    refine l_call h (fun _ => doc_bare_ok) (fun v7 _ h => ?_)
    refine l_move ?_
    refine l_split h (fun _ h => ?_) (fun _ h => ?_)
    · refine l_on ?_
      refine l_fieldAddr ?_
      refine l_on ?_
      refine l_load ?_
      refine l_on ?_
      refine l_seq ?_
      refine l_pick_true ?_
      refine l_move ?_
      refine l_split h (fun _ h => ?_) (fun _ h => ?_)
      · refine l_on ?_
        refine l_fieldAddr ?_
        refine l_on ?_
        refine l_load ?_
        refine l_on ?_
        refine l_call h (fun _ => doc_text_ok) (fun v8 _ h => ?_)
        refine l_to [(1007, 1007)] ⟨[(7, .ptr 1007 0), (70, B true), (73, B v8)], [(1007, .box 89 [I v1.Kind, I v1.Parent, S v1.Prefix, S v1.Local, S v1.URI, S v1.Text, .vs v1.Decls.length (F c_TDecl v1.Decls), .vs v1.Attrs.length (F c_TAttr v1.Attrs)])], []⟩ hB ?_
        refine l_pick_true ?_
        refine l_move ?_
        refine l_split h (fun _ h => ?_) (fun _ h => ?_)
        · refine l_on ?_
          refine l_fieldAddr ?_
          refine l_on ?_
          refine l_load ?_
          refine l_on ?_
          refine l_call h (fun _ => strings_Contains_ok) (fun v9 _ h => ?_)
          refine l_on ?_
          refine l_un ?_
          refine l_pick_true ?_
          refine l_move ?_
          refine l_split h (fun _ h => ?_) (fun _ h => ?_)
          · refine l_on ?_
            refine l_fieldAddr ?_
            refine l_on ?_
            refine l_load ?_
            refine l_on ?_
            refine l_call h (fun _ => strings_HasSuffix_ok) (fun v10 _ h => ?_)
            refine l_to [] ⟨[(81, B true), (84, B v10)], [], []⟩ hB ?_
            refine l_on ?_
            refine l_un ?_
            refine l_pick_true ?_
            refine l_assign ?_
            refine k_nil ?_
            refine f_t ?_
            refine k_retc ?_
            refine f_br ?_
            refine f_tr ?_
            apply k_ret [] hB h
          refine l_off ?_
          refine l_off ?_
          refine l_off ?_
          refine l_off ?_
          refine l_pick_false ?_
          refine l_assign ?_
          refine k_nil ?_
          refine f_t ?_
          refine k_retc ?_
          refine f_br ?_
          refine f_tr ?_
          apply k_ret [] hB h
        refine l_off ?_
        refine l_off ?_
        refine l_off ?_
        refine l_off ?_
        refine l_pick_false ?_
        refine l_move ?_
        refine l_off ?_
        refine l_off ?_
        refine l_off ?_
        refine l_off ?_
        refine l_pick_false ?_
        refine l_assign ?_
        refine k_nil ?_
        refine f_t ?_
        refine k_retc ?_
        refine f_br ?_
        refine f_tr ?_
        apply k_ret [] hB h
      refine l_off ?_
      refine l_off ?_
      refine l_off ?_
      refine l_pick_false ?_
      refine l_move ?_
      refine l_off ?_
      refine l_off ?_
      refine l_off ?_
      refine l_off ?_
      refine l_pick_false ?_
      refine l_move ?_
      refine l_off ?_
      refine l_off ?_
      refine l_off ?_
      refine l_off ?_
      refine l_pick_false ?_
      refine l_assign ?_
      refine k_nil ?_
      refine f_t ?_
      refine k_retc ?_
      refine f_br ?_
      refine f_tr ?_
      apply k_ret [] hB h
    refine l_off ?_
    refine l_off ?_
    refine l_off ?_
    refine l_pick_false ?_
    refine l_move ?_
    refine l_off ?_
    refine l_off ?_
    refine l_off ?_
    refine l_pick_false ?_
    refine l_move ?_
    refine l_off ?_
    refine l_off ?_
    refine l_off ?_
    refine l_off ?_
    refine l_pick_false ?_
    refine l_move ?_
    refine l_off ?_
    refine l_off ?_
    refine l_off ?_
    refine l_off ?_
    refine l_pick_false ?_
    refine l_assign ?_
    refine k_nil ?_
    refine f_t ?_
    refine k_retc ?_
    refine f_br ?_
    refine f_tr ?_
    apply k_ret [] hB h
  refine k_seq ?_
  refine k_reg ?_
  refine l_cmp ?_
  refine l_assign ?_
  refine k_nil ?_
  refine f_t ?_
  refine k_if h (fun _ h => ?_) (fun _ h => ?_)
  · refine k_seq ?_
    refine k_cut (fun q13 => (.normal, ⟨[(7, .ptr 1007 0), (8, B q13)], [(1007, .box 89 [I v1.Kind, I v1.Parent, S v1.Prefix, S v1.Local, S v1.URI, S v1.Text, .vs v1.Decls.length (F c_TDecl v1.Decls), .vs v1.Attrs.length (F c_TAttr v1.Attrs)])], []⟩)) h (fun t h => ?_) (fun q13 h => ?_)
    · refine k_reg ?_
      refine l_fieldAddr ?_
      refine l_load ?_
      refine l_sne ?_
      refine l_move ?_
      refine l_split h (fun _ h => ?_) (fun _ h => ?_)
      · refine l_on ?_
        refine l_fieldAddr ?_
        refine l_on ?_
        refine l_load ?_
        refine l_on ?_
        refine l_ats h (fun v11 _ h => ?_)
        refine l_on ?_
        refine l_call h (fun _ => name_Blank_ok) (fun v12 _ h => ?_)
        refine l_pick_true ?_
        refine l_assign ?_
        refine k_nil ?_
        exact k_out [(1007, 1007)] hB h
      refine l_off ?_
      refine l_off ?_
      refine l_off ?_
      refine l_off ?_
      refine l_pick_false ?_
      refine l_assign ?_
      refine k_nil ?_
      exact k_out [(1007, 1007)] hB h
    refine f_t ?_
    refine k_seq ?_
    refine k_reg ?_
    refine l_load_agg ?_
    refine l_call h (fun _ => doc_bare_ok) (fun v14 _ h => ?_)
    refine l_move ?_
    refine l_split h (fun _ h => ?_) (fun _ h => ?_)
    · refine l_on ?_
      refine l_fieldAddr ?_
      refine l_on ?_
      refine l_load ?_
      refine l_on ?_
      refine l_call h (fun _ => name_Is_ok) (fun v15 _ h => ?_)
      refine l_to [(1007, 1007)] ⟨[(7, .ptr 1007 0), (8, B q13), (100, B true), (103, B v15)], [(1007, .box 89 [I v1.Kind, I v1.Parent, S v1.Prefix, S v1.Local, S v1.URI, S v1.Text, .vs v1.Decls.length (F c_TDecl v1.Decls), .vs v1.Attrs.length (F c_TAttr v1.Attrs)])], []⟩ hB ?_
      refine l_pick_true ?_
      refine l_move ?_
      refine l_split h (fun _ h => ?_) (fun _ h => ?_)
      · refine l_on ?_
        refine l_fieldAddr ?_
        refine l_on ?_
        refine l_load ?_
        refine l_on ?_
        refine l_call h (fun _ => doc_target_ok) (fun v16 _ h => ?_)
        refine l_on ?_
        refine l_un ?_
        refine l_pick_true ?_
        refine l_move ?_
        refine l_split h (fun _ h => ?_) (fun _ h => ?_)
        · refine l_on ?_
          refine l_fieldAddr ?_
          refine l_on ?_
          refine l_load ?_
          refine l_on ?_
          refine l_call h (fun _ => doc_text_ok) (fun v17 _ h => ?_)
          refine l_to [(1007, 1007)] ⟨[(7, .ptr 1007 0), (8, B q13), (111, B true), (114, B v17)], [(1007, .box 89 [I v1.Kind, I v1.Parent, S v1.Prefix, S v1.Local, S v1.URI, S v1.Text, .vs v1.Decls.length (F c_TDecl v1.Decls), .vs v1.Attrs.length (F c_TAttr v1.Attrs)])], []⟩ hB ?_
          refine l_pick_true ?_
          refine l_move ?_
          refine l_split h (fun _ h => ?_) (fun _ h => ?_)
          · refine l_on ?_
            refine l_fieldAddr ?_
            refine l_on ?_
            refine l_load ?_
            refine l_on ?_
            refine l_call h (fun _ => strings_Contains_ok) (fun v18 _ h => ?_)
            refine l_on ?_
            refine l_un ?_
            refine l_pick_true ?_
            refine l_move ?_
            refine l_split h (fun _ h => ?_) (fun _ h => ?_)
            · refine l_on ?_
              refine l_move ?_
              refine l_on ?_
              refine l_un ?_
              refine l_pick_true ?_
              refine l_assign ?_
              refine k_nil ?_
              refine f_t ?_
              refine k_retc ?_
              refine f_br ?_
              refine f_tr ?_
              apply k_ret [] hB h
            refine l_off ?_
            refine l_off ?_
            refine l_pick_false ?_
            refine l_assign ?_
            refine k_nil ?_
            refine f_t ?_
            refine k_retc ?_
            refine f_br ?_
            refine f_tr ?_
            apply k_ret [] hB h
          refine l_off ?_
          refine l_off ?_
          refine l_off ?_
          refine l_off ?_
          refine l_pick_false ?_
          refine l_move ?_
          refine l_off ?_
          refine l_off ?_
          refine l_pick_false ?_
          refine l_assign ?_
          refine k_nil ?_
          refine f_t ?_
          refine k_retc ?_
          refine f_br ?_
          refine f_tr ?_
          apply k_ret [] hB h
        refine l_off ?_
        refine l_off ?_
        refine l_off ?_
        refine l_pick_false ?_
        refine l_move ?_
        refine l_off ?_
        refine l_off ?_
        refine l_off ?_
        refine l_off ?_
        refine l_pick_false ?_
        refine l_move ?_
        refine l_off ?_
        refine l_off ?_
        refine l_pick_false ?_
        refine l_assign ?_
        refine k_nil ?_
        refine f_t ?_
        refine k_retc ?_
        refine f_br ?_
        refine f_tr ?_
        apply k_ret [] hB h
      refine l_off ?_
      refine l_off ?_
      refine l_off ?_
      refine l_off ?_
      refine l_pick_false ?_
      refine l_move ?_
      refine l_off ?_
      refine l_off ?_
      refine l_off ?_
      refine l_pick_false ?_
      refine l_move ?_
      refine l_off ?_
      refine l_off ?_
      refine l_off ?_
      refine l_off ?_
      refine l_pick_false ?_
      refine l_move ?_
      refine l_off ?_
      refine l_off ?_
      refine l_pick_false ?_
      refine l_assign ?_
      refine k_nil ?_
      refine f_t ?_
      refine k_retc ?_
      refine f_br ?_
      refine f_tr ?_
      apply k_ret [] hB h
    refine l_off ?_
    refine l_off ?_
    refine l_off ?_
    refine l_pick_false ?_
    refine l_move ?_
    refine l_off ?_
    refine l_off ?_
    refine l_off ?_
    refine l_off ?_
    refine l_pick_false ?_
    refine l_move ?_
    refine l_off ?_
    refine l_off ?_
    refine l_off ?_
    refine l_pick_false ?_
    refine l_move ?_
    refine l_off ?_
    refine l_off ?_
    refine l_off ?_
    refine l_off ?_
    refine l_pick_false ?_
    refine l_move ?_
    refine l_off ?_
    refine l_off ?_
    refine l_pick_false ?_
    refine l_assign ?_
    refine k_nil ?_
    refine f_t ?_
    refine k_retc ?_
    refine f_br ?_
    refine f_tr ?_
    apply k_ret [] hB h
  refine k_skip ?_
  refine f_b ?_
  refine f_t ?_
  refine k_seq ?_
  refine k_reg ?_
  refine l_assign ?_
  refine k_nil ?_
  refine f_t ?_
  refine k_retc ?_
  apply k_ret [] hB h
theorem doc_under_ok {x : TNode} {r : Bool} (h : doc_under x = some r) : XSpec Tryz.prog 138 [.agg (c_TNode x)] [] (B r) [] [] := by
  unfold doc_under at h
  refine X_of_run Tryz.hU Tryz.func138 (fun _ _ _ hB => ?_)
  refine k_seq ?_
  refine k_reg ?_
  refine l_box ?_
  refine l_assign ?_
  refine k_nil ?_
  refine f_t ?_
  refine k_seq ?_
  refine k_reg ?_
  refine l_fieldAddr ?_
  refine l_load ?_
  refine l_cmp ?_
  refine l_move ?_
  refine l_split h (fun _ h => ?_) (fun _ h => ?_)
  · refine l_off ?_
    refine l_off ?_
    refine l_off ?_
    refine l_pick_true ?_
    refine l_assign ?_
    refine k_nil ?_
    refine f_t ?_
    refine k_retc ?_
    apply k_ret [] hB h
  refine l_on ?_
  refine l_fieldAddr ?_
  refine l_on ?_
  refine l_load ?_
  refine l_on ?_
  refine l_cmp ?_
  refine l_pick_false ?_
  refine l_assign ?_
  refine k_nil ?_
  refine f_t ?_
  refine k_retc ?_
  apply k_ret [] hB h
theorem doc_check_ok {l : (List TNode)} {r : Int × Bool} (h : doc_check l = some r) : XSpec Tryz.prog 91 [.vs l.length (F c_TNode l)] [] (.tup [I r.1, B r.2]) [] [] := by
  unfold doc_check at h
  refine X_of_run Tryz.hU Tryz.func91 (fun _ _ _ hB => ?_)
  refine k_seq ?_
  refine k_reg ?_
  refine l_assign ?_
  refine l_assign ?_
  refine k_nil ?_
  refine f_t ?_
  refine k_seq ?_
  refine k_seq ?_
  refine k_cut (fun q7 => (.normal, ⟨[(0, .vs l.length (F c_TNode l)), (45, B q7)], [], []⟩)) h (fun t h => ?_) (fun q7 h => ?_)
  · refine k_reg ?_
    refine l_move ?_
    refine l_len ?_
    refine l_cmp ?_
    refine l_move ?_
    refine l_split h (fun _ h => ?_) (fun _ h => ?_)
    · refine l_off ?_
      refine l_off ?_
      refine l_off ?_
      refine l_off ?_
      refine l_off ?_
      refine l_pick_true ?_
      refine l_move ?_
      refine l_off ?_
      refine l_off ?_
      refine l_off ?_
      refine l_off ?_
      refine l_off ?_
      refine l_pick_true ?_
      refine l_move ?_
      refine l_off ?_
      refine l_off ?_
      refine l_off ?_
      refine l_off ?_
      refine l_off ?_
      refine l_pick_true ?_
      refine l_move ?_
      refine l_off ?_
      refine l_off ?_
      refine l_off ?_
      refine l_off ?_
      refine l_off ?_
      refine l_pick_true ?_
      refine l_move ?_
      refine l_off ?_
      refine l_off ?_
      refine l_off ?_
      refine l_off ?_
      refine l_off ?_
      refine l_pick_true ?_
      refine k_nil ?_
      exact k_out [] hB h
    refine l_on ?_
    refine l_move ?_
    refine l_on ?_
    refine l_at h (fun v1 _ h => ?_)
    refine l_on ?_
    refine l_fieldAddr ?_
    refine l_on ?_
    refine l_load ?_
    refine l_on ?_
    refine l_cmp ?_
    refine l_pick_false ?_
    refine l_move ?_
    refine l_split h (fun _ h => ?_) (fun _ h => ?_)
    · refine l_off ?_
      refine l_off ?_
      refine l_off ?_
      refine l_off ?_
      refine l_off ?_
      refine l_pick_true ?_
      refine l_move ?_
      refine l_off ?_
      refine l_off ?_
      refine l_off ?_
      refine l_off ?_
      refine l_off ?_
      refine l_pick_true ?_
      refine l_move ?_
      refine l_off ?_
      refine l_off ?_
      refine l_off ?_
      refine l_off ?_
      refine l_off ?_
      refine l_pick_true ?_
      refine l_move ?_
      refine l_off ?_
      refine l_off ?_
      refine l_off ?_
      refine l_off ?_
      refine l_off ?_
      refine l_pick_true ?_
      refine k_nil ?_
      exact k_out [] hB h
    refine l_on ?_
    refine l_move ?_
    refine l_on ?_
    refine l_at h (fun v2 _ h => ?_)
    refine l_on ?_
    refine l_fieldAddr ?_
    refine l_on ?_
    refine l_load ?_
    refine l_on ?_
    refine l_cmp ?_
    refine l_pick_false ?_
    refine l_move ?_
    refine l_split h (fun _ h => ?_) (fun _ h => ?_)
    · refine l_off ?_
      refine l_off ?_
      refine l_off ?_
      refine l_off ?_
      refine l_off ?_
      refine l_pick_true ?_
      refine l_move ?_
      refine l_off ?_
      refine l_off ?_
      refine l_off ?_
      refine l_off ?_
      refine l_off ?_
      refine l_pick_true ?_
      refine l_move ?_
      refine l_off ?_
      refine l_off ?_
      refine l_off ?_
      refine l_off ?_
      refine l_off ?_
      refine l_pick_true ?_
      refine k_nil ?_
      exact k_out [] hB h
    refine l_on ?_
    refine l_move ?_
    refine l_on ?_
    refine l_at h (fun v3 _ h => ?_)
    refine l_on ?_
    refine l_load_agg ?_
    refine l_on ?_
    refine l_call h (fun _ => doc_bare_ok) (fun v4 _ h => ?_)
    refine l_on ?_
    refine l_un ?_
    refine l_pick_false ?_
    refine l_move ?_
    refine l_split h (fun _ h => ?_) (fun _ h => ?_)
    · refine l_off ?_
      refine l_off ?_
      refine l_off ?_
      refine l_off ?_
      refine l_off ?_
      refine l_pick_true ?_
      refine l_move ?_
      refine l_off ?_
      refine l_off ?_
      refine l_off ?_
      refine l_off ?_
      refine l_off ?_
      refine l_pick_true ?_
      refine k_nil ?_
      exact k_out [] hB h
    refine l_on ?_
    refine l_move ?_
    refine l_on ?_
    refine l_at h (fun v5 _ h => ?_)
    refine l_on ?_
    refine l_fieldAddr ?_
    refine l_on ?_
    refine l_load ?_
    refine l_on ?_
    refine l_sne ?_
    refine l_pick_false ?_
    refine l_move ?_
    refine l_split h (fun _ h => ?_) (fun _ h => ?_)
    · refine l_off ?_
      refine l_off ?_
      refine l_off ?_
      refine l_off ?_
      refine l_off ?_
      refine l_pick_true ?_
      refine k_nil ?_
      exact k_out [] hB h
    refine l_on ?_
    refine l_move ?_
    refine l_on ?_
    refine l_at h (fun v6 _ h => ?_)
    refine l_on ?_
    refine l_fieldAddr ?_
    refine l_on ?_
    refine l_load ?_
    refine l_on ?_
    refine l_sne ?_
    refine l_pick_false ?_
    refine k_nil ?_
    exact k_out [] hB h
  refine f_t ?_
  refine k_if h (fun _ h => ?_) (fun _ h => ?_)
  · refine k_seq ?_
    refine k_reg ?_
    refine l_assign ?_
    refine l_assign ?_
    refine k_nil ?_
    refine f_t ?_
    refine k_retc ?_
    refine f_tr ?_
    apply k_ret [] hB h
  refine k_skip ?_
  refine f_t ?_
  refine k_seq ?_
  refine k_reg ?_
  refine l_move ?_
  refine l_len ?_
  refine l_make (e := cI) (z := 0) h (fun v8 ev8 h => ?_)
  refine l_assign ?_
  refine k_nil ?_
  refine f_t ?_
  refine k_seq ?_
  refine k_seq ?_
  refine k_reg ?_
  refine l_move ?_
  refine l_len ?_
  refine l_move ?_
  refine k_nil ?_
  refine f_t ?_
  refine k_block ?_
  refine k_loop (fun y9 => ⟨[(0, .vs l.length (F c_TNode l)), (4, .sl 1048 0 y9.2.length), (50, I (v8.length : Int)), (51, I y9.1)], [(1048, .row 3 1 0 (F cI y9.2))], []⟩) (fun q12 => (.exit 0, ⟨[(0, .vs l.length (F c_TNode l)), (4, .sl 1048 0 q12.length)], [(1048, .row 3 1 0 (F cI q12))], []⟩)) [(1048, 1048)] hB h (fun y9 t h => ?_) (fun q12 h => ?_)
  · unfold doc_check_b1 at h
    refine k_seq ?_
    refine k_reg ?_
    refine l_cmp ?_
    refine k_nil ?_
    refine f_t ?_
    refine k_seq ?_
    refine k_if h (fun _ h => ?_) (fun _ h => ?_)
    · refine k_skip ?_
      refine f_t ?_
      refine k_seq ?_
      refine k_block ?_
      refine k_seq ?_
      refine k_reg ?_
      refine l_move ?_
      refine l_assign ?_
      refine k_nil ?_
      refine f_t ?_
      refine k_reg ?_
      refine l_move ?_
      refine l_move ?_
      refine l_ato h (fun v10 ev10 h => ?_)
      refine l_put0 ev10 h (fun v11 ev11 h => ?_)
      refine k_nil ?_
      refine f_b ?_
      refine f_t ?_
      refine k_reg ?_
      refine l_addw ?_
      refine l_move ?_
      refine k_nil ?_
      refine f_relen 4 v11.length ?_
      exact k_next [(1048, 1048)] hB h
    refine k_exit ?_
    refine f_te ?_
    exact k_brk [(1048, 1048)] hB h
  refine f_be ?_
  refine f_t ?_
  refine k_seq ?_
  refine k_reg ?_
  refine l_assign ?_
  refine k_nil ?_
  refine f_t ?_
  refine k_seq ?_
  refine k_seq ?_
  refine k_reg ?_
  refine l_assign ?_
  refine k_nil ?_
  refine f_t ?_
  refine k_block ?_
  refine k_loop (fun y13 => ⟨[(0, .vs l.length (F c_TNode l)), (4, .sl 1048 0 y13.2.2.length), (6, I y13.1), (7, I y13.2.1)], [(1048, .row 3 1 0 (F cI y13.2.2))], []⟩) (Sum.elim (fun q32 => (.ret, ⟨[(2, I 0), (3, B false)], [], []⟩)) (fun q33 => (.exit 2, ⟨[(6, I q33)], [], []⟩))) [(1048, 1048)] hB h (fun y13 t h => ?_) (fun q h => ?_)
  · unfold doc_check_b2 at h
    refine k_seq ?_
    refine k_seq ?_
    refine k_reg ?_
    refine l_move ?_
    refine l_move ?_
    refine l_len ?_
    refine l_cmp ?_
    refine k_nil ?_
    refine f_t ?_
    refine k_if h (fun _ h => ?_) (fun _ h => ?_)
    · refine k_skip ?_
      refine f_t ?_
      refine k_seq ?_
      refine k_block ?_
      refine k_seq ?_
      refine k_seq ?_
      refine k_cut (fun q20 => (.normal, ⟨[(0, .vs l.length (F c_TNode l)), (4, .sl 1048 0 y13.2.2.length), (6, I y13.1), (7, I y13.2.1), (89, B q20)], [(1048, .row 3 1 0 (F cI y13.2.2))], []⟩)) h (fun t h => ?_) (fun q20 h => ?_)
      · refine k_reg ?_
        refine l_move ?_
        refine l_move ?_
        refine l_call h (fun _ => doc_stands_ok) (fun v14 _ h => ?_)
        refine l_un ?_
        refine l_move ?_
        refine l_split h (fun _ h => ?_) (fun _ h => ?_)
        · refine l_off ?_
          refine l_off ?_
          refine l_off ?_
          refine l_off ?_
          refine l_off ?_
          refine l_off ?_
          refine l_off ?_
          refine l_off ?_
          refine l_off ?_
          refine l_off ?_
          refine l_off ?_
          refine l_off ?_
          refine l_pick_true ?_
          refine l_move ?_
          refine l_off ?_
          refine l_off ?_
          refine l_off ?_
          refine l_off ?_
          refine l_off ?_
          refine l_off ?_
          refine l_pick_true ?_
          refine k_nil ?_
          exact k_out [(1048, 1048)] hB h
        refine l_on ?_
        refine l_move ?_
        refine l_on ?_
        refine l_move ?_
        refine l_on ?_
        refine l_move ?_
        refine l_on ?_
        refine l_move ?_
        refine l_on ?_
        refine l_move ?_
        refine l_on ?_
        refine l_at h (fun v15 _ h => ?_)
        refine l_on ?_
        refine l_fieldAddr ?_
        refine l_on ?_
        refine l_load ?_
        refine l_on ?_
        refine l_ato h (fun v16 ev16 h => ?_)
        refine l_on ?_
        refine l_ldr0 ev16 ?_
        refine l_on ?_
        refine l_call h (fun _ => doc_formed_ok) (fun v17 _ h => ?_)
        refine l_on ?_
        refine l_un ?_
        refine l_pick_false ?_
        refine l_move ?_
        refine l_split h (fun _ h => ?_) (fun _ h => ?_)
        · refine l_off ?_
          refine l_off ?_
          refine l_off ?_
          refine l_off ?_
          refine l_off ?_
          refine l_off ?_
          refine l_pick_true ?_
          refine k_nil ?_
          exact k_out [(1048, 1048)] hB h
        refine l_on ?_
        refine l_move ?_
        refine l_on ?_
        refine l_move ?_
        refine l_on ?_
        refine l_at h (fun v18 _ h => ?_)
        refine l_on ?_
        refine l_load_agg ?_
        refine l_on ?_
        refine l_call h (fun _ => doc_under_ok) (fun v19 _ h => ?_)
        refine l_on ?_
        refine l_un ?_
        refine l_pick_false ?_
        refine k_nil ?_
        exact k_out [(1048, 1048)] hB h
      refine f_t ?_
      refine k_if h (fun _ h => ?_) (fun _ h => ?_)
      · refine k_seq ?_
        refine k_reg ?_
        refine l_assign ?_
        refine l_assign ?_
        refine k_nil ?_
        refine f_t ?_
        refine k_retc ?_
        refine f_tr ?_
        refine f_br ?_
        refine f_tr ?_
        exact k_brk [] hB h
      refine k_skip ?_
      refine f_t ?_
      refine k_seq ?_
      refine k_seq ?_
      refine k_reg ?_
      refine l_move ?_
      refine l_move ?_
      refine l_at h (fun v21 _ h => ?_)
      refine l_fieldAddr ?_
      refine l_load ?_
      refine l_cmp ?_
      refine l_move ?_
      refine l_split h (fun _ h => ?_) (fun _ h => ?_)
      · refine l_on ?_
        refine l_move ?_
        refine l_on ?_
        refine l_move ?_
        refine l_on ?_
        refine l_at h (fun v22 _ h => ?_)
        refine l_on ?_
        refine l_fieldAddr ?_
        refine l_on ?_
        refine l_load ?_
        refine l_on ?_
        refine l_cmp ?_
        refine l_pick_true ?_
        refine k_nil ?_
        refine f_t ?_
        refine k_if h (fun _ h => ?_) (fun _ h => ?_)
        · refine k_seq ?_
          refine k_seq ?_
          refine k_reg ?_
          refine l_move ?_
          refine l_cmp ?_
          refine k_nil ?_
          refine f_t ?_
          refine k_if h (fun _ h => ?_) (fun _ h => ?_)
          · refine k_seq ?_
            refine k_reg ?_
            refine l_assign ?_
            refine l_assign ?_
            refine k_nil ?_
            refine f_t ?_
            refine k_retc ?_
            refine f_tr ?_
            refine f_tr ?_
            refine f_br ?_
            refine f_tr ?_
            exact k_brk [] hB h
          refine k_skip ?_
          refine f_t ?_
          refine k_reg ?_
          refine l_move ?_
          refine l_assign ?_
          refine k_nil ?_
          refine f_t ?_
          refine k_reg ?_
          refine l_move ?_
          refine l_move ?_
          refine l_move ?_
          refine l_at h (fun v23 _ h => ?_)
          refine l_fieldAddr ?_
          refine l_load ?_
          refine l_move ?_
          refine l_ato h (fun v24 ev24 h => ?_)
          refine l_put0 ev24 h (fun v25 ev25 h => ?_)
          refine k_nil ?_
          refine f_b ?_
          refine f_t ?_
          refine k_reg ?_
          refine l_move ?_
          refine l_addw ?_
          refine l_assign ?_
          refine k_nil ?_
          refine f_relen 4 v25.length ?_
          exact k_next [(1048, 1048)] hB h
        refine k_skip ?_
        refine f_t ?_
        refine k_reg ?_
        refine l_move ?_
        refine l_move ?_
        refine l_move ?_
        refine l_at h (fun v26 _ h => ?_)
        refine l_fieldAddr ?_
        refine l_load ?_
        refine l_move ?_
        refine l_ato h (fun v27 ev27 h => ?_)
        refine l_put0 ev27 h (fun v28 ev28 h => ?_)
        refine k_nil ?_
        refine f_b ?_
        refine f_t ?_
        refine k_reg ?_
        refine l_move ?_
        refine l_addw ?_
        refine l_assign ?_
        refine k_nil ?_
        refine f_relen 4 v28.length ?_
        exact k_next [(1048, 1048)] hB h
      refine l_off ?_
      refine l_off ?_
      refine l_off ?_
      refine l_off ?_
      refine l_off ?_
      refine l_off ?_
      refine l_pick_false ?_
      refine k_nil ?_
      refine f_t ?_
      refine k_f ?_
      refine k_skip ?_
      refine f_t ?_
      refine k_reg ?_
      refine l_move ?_
      refine l_move ?_
      refine l_move ?_
      refine l_at h (fun v29 _ h => ?_)
      refine l_fieldAddr ?_
      refine l_load ?_
      refine l_move ?_
      refine l_ato h (fun v30 ev30 h => ?_)
      refine l_put0 ev30 h (fun v31 ev31 h => ?_)
      refine k_nil ?_
      refine f_b ?_
      refine f_t ?_
      refine k_reg ?_
      refine l_move ?_
      refine l_addw ?_
      refine l_assign ?_
      refine k_nil ?_
      refine f_relen 4 v31.length ?_
      exact k_next [(1048, 1048)] hB h
    refine k_exit ?_
    refine f_te ?_
    exact k_brk [] hB h
  rcases q with q32 | q33
  · dsimp only [Sum.elim] at h ⊢
    refine f_br ?_
    refine f_tr ?_
    apply k_ret [] hB h
  dsimp only [Sum.elim] at h ⊢
  refine f_be ?_
  refine f_t ?_
  refine k_seq ?_
  refine k_reg ?_
  refine l_move ?_
  refine l_move ?_
  refine l_cmp ?_
  refine l_assign ?_
  refine l_assign ?_
  refine k_nil ?_
  refine f_t ?_
  refine k_retc ?_
  apply k_ret [] hB h
theorem doc_within_ok {l : (List TNode)} {r : Bool} (h : doc_within l = some r) : XSpec Tryz.prog 92 [.vs l.length (F c_TNode l)] [] (B r) [] [] := by
  unfold doc_within at h
  refine X_of_run Tryz.hU Tryz.func92 (fun _ _ _ hB => ?_)
  refine k_seq ?_
  refine k_reg ?_
  refine l_assign ?_
  refine k_nil ?_
  refine f_t ?_
  refine k_seq ?_
  refine k_seq ?_
  refine k_reg ?_
  refine l_move ?_
  refine l_len ?_
  refine l_cmp ?_
  refine k_nil ?_
  refine f_t ?_
  refine k_if h (fun _ h => ?_) (fun _ h => ?_)
  · refine k_seq ?_
    refine k_reg ?_
    refine l_assign ?_
    refine k_nil ?_
    refine f_t ?_
    refine k_retc ?_
    refine f_tr ?_
    apply k_ret [] hB h
  refine k_skip ?_
  refine f_t ?_
  refine k_seq ?_
  refine k_reg ?_
  refine l_move ?_
  refine l_len ?_
  refine l_make (e := cI) (z := 0) h (fun v1 ev1 h => ?_)
  refine l_assign ?_
  refine k_nil ?_
  refine f_t ?_
  refine k_seq ?_
  refine k_seq ?_
  refine k_reg ?_
  refine l_move ?_
  refine l_len ?_
  refine l_move ?_
  refine k_nil ?_
  refine f_t ?_
  refine k_block ?_
  refine k_loop (fun y2 => ⟨[(3, .sl 1011 0 y2.2.length), (12, .vs l.length (F c_TNode l)), (13, I (l.length : Int)), (14, I y2.1)], [(1011, .row 3 1 0 (F cI y2.2))], []⟩) (Sum.elim (fun q9 => (.ret, ⟨[(2, B false)], [], []⟩)) (fun q10 => (.exit 0, ⟨[], [], []⟩))) [(1011, 1011)] hB h (fun y2 t h => ?_) (fun q h => ?_)
  · unfold doc_within_b1 at h
    refine k_seq ?_
    refine k_reg ?_
    refine l_cmp ?_
    refine k_nil ?_
    refine f_t ?_
    refine k_seq ?_
    refine k_if h (fun _ h => ?_) (fun _ h => ?_)
    · refine k_skip ?_
      refine f_t ?_
      refine k_seq ?_
      refine k_block ?_
      refine k_seq ?_
      refine k_reg ?_
      refine l_move ?_
      refine l_at h (fun v3 _ h => ?_)
      refine l_load_agg ?_
      refine l_alloc ?_
      refine l_assign ?_
      refine l_store_box ?_
      refine k_nil ?_
      refine f_t ?_
      refine k_seq ?_
      refine k_seq ?_
      refine k_reg ?_
      refine l_move ?_
      refine l_cmp ?_
      refine k_nil ?_
      refine f_t ?_
      refine k_if h (fun _ h => ?_) (fun _ h => ?_)
      · refine k_reg ?_
        refine l_move ?_
        refine l_move ?_
        refine l_move ?_
        refine l_fieldAddr ?_
        refine l_load ?_
        refine l_ato h (fun v4 ev4 h => ?_)
        refine l_ldr0 ev4 ?_
        refine l_addw ?_
        refine l_ato h (fun v5 ev5 h => ?_)
        refine l_put0 ev5 h (fun v6 ev6 h => ?_)
        refine k_nil ?_
        refine f_t ?_
        refine k_seq ?_
        refine k_reg ?_
        refine l_move ?_
        refine l_move ?_
        refine l_relen 30 v6.length ?_
        refine l_ato h (fun v7 ev7 h => ?_)
        refine l_ldr0 ev7 ?_
        refine l_cmp ?_
        refine l_move ?_
        refine l_split h (fun _ h => ?_) (fun _ h => ?_)
        · refine l_off ?_
          refine l_off ?_
          refine l_off ?_
          refine l_off ?_
          refine l_off ?_
          refine l_off ?_
          refine l_off ?_
          refine l_off ?_
          refine l_pick_true ?_
          refine k_nil ?_
          refine f_t ?_
          refine k_t ?_
          refine k_seq ?_
          refine k_reg ?_
          refine l_assign ?_
          refine k_nil ?_
          refine f_t ?_
          refine k_retc ?_
          refine f_br ?_
          refine f_tr ?_
          exact k_brk [] hB h
        refine l_on ?_
        refine l_fieldAddr ?_
        refine l_on ?_
        refine l_load ?_
        refine l_on ?_
        refine l_len ?_
        refine l_on ?_
        refine l_fieldAddr ?_
        refine l_on ?_
        refine l_load ?_
        refine l_on ?_
        refine l_len ?_
        refine l_on ?_
        refine l_addw ?_
        refine l_on ?_
        refine l_cmp ?_
        refine l_pick_false ?_
        refine k_nil ?_
        refine f_t ?_
        refine k_if h (fun _ h => ?_) (fun _ h => ?_)
        · refine k_seq ?_
          refine k_reg ?_
          refine l_assign ?_
          refine k_nil ?_
          refine f_t ?_
          refine k_retc ?_
          refine f_br ?_
          refine f_tr ?_
          exact k_brk [] hB h
        refine k_skip ?_
        refine f_b ?_
        refine f_t ?_
        refine k_reg ?_
        refine l_addw ?_
        refine l_move ?_
        refine k_nil ?_
        refine f_relen 3 v6.length ?_
        exact k_next [(1011, 1011)] hB h
      refine k_skip ?_
      refine f_t ?_
      refine k_seq ?_
      refine k_reg ?_
      refine l_move ?_
      refine l_move ?_
      refine l_ato h (fun v8 ev8 h => ?_)
      refine l_ldr0 ev8 ?_
      refine l_cmp ?_
      refine l_move ?_
      refine l_split h (fun _ h => ?_) (fun _ h => ?_)
      · refine l_off ?_
        refine l_off ?_
        refine l_off ?_
        refine l_off ?_
        refine l_off ?_
        refine l_off ?_
        refine l_off ?_
        refine l_off ?_
        refine l_pick_true ?_
        refine k_nil ?_
        refine f_t ?_
        refine k_t ?_
        refine k_seq ?_
        refine k_reg ?_
        refine l_assign ?_
        refine k_nil ?_
        refine f_t ?_
        refine k_retc ?_
        refine f_br ?_
        refine f_tr ?_
        exact k_brk [] hB h
      refine l_on ?_
      refine l_fieldAddr ?_
      refine l_on ?_
      refine l_load ?_
      refine l_on ?_
      refine l_len ?_
      refine l_on ?_
      refine l_fieldAddr ?_
      refine l_on ?_
      refine l_load ?_
      refine l_on ?_
      refine l_len ?_
      refine l_on ?_
      refine l_addw ?_
      refine l_on ?_
      refine l_cmp ?_
      refine l_pick_false ?_
      refine k_nil ?_
      refine f_t ?_
      refine k_if h (fun _ h => ?_) (fun _ h => ?_)
      · refine k_seq ?_
        refine k_reg ?_
        refine l_assign ?_
        refine k_nil ?_
        refine f_t ?_
        refine k_retc ?_
        refine f_br ?_
        refine f_tr ?_
        exact k_brk [] hB h
      refine k_skip ?_
      refine f_b ?_
      refine f_t ?_
      refine k_reg ?_
      refine l_addw ?_
      refine l_move ?_
      refine k_nil ?_
      exact k_next [(1011, 1011)] hB h
    refine k_exit ?_
    refine f_te ?_
    exact k_brk [] hB h
  rcases q with q9 | q10
  · dsimp only [Sum.elim] at h ⊢
    refine f_br ?_
    refine f_tr ?_
    apply k_ret [] hB h
  dsimp only [Sum.elim] at h ⊢
  refine f_be ?_
  refine f_t ?_
  refine k_seq ?_
  refine k_reg ?_
  refine l_assign ?_
  refine k_nil ?_
  refine f_t ?_
  refine k_retc ?_
  apply k_ret [] hB h
theorem slices_Clone_Decl_ok {s : (List TDecl)} {r : (List TDecl)} (h : slices_Clone_Decl s = some r) : XSpec Tryz.prog 34 [.vs s.length (F c_TDecl s)] [] (.sl 1 0 r.length) [(1, .row 68 2 0 (F c_TDecl r))] [] := by
  unfold slices_Clone_Decl at h
  refine X_of_run Tryz.hU Tryz.func34 (fun _ _ _ hB => ?_)
  refine k_seq ?_
  refine k_reg ?_
  refine l_assign ?_
  refine k_nil ?_
  refine f_t ?_
  refine k_seq ?_
  refine k_seq ?_
  refine k_reg ?_
  refine l_move ?_
  refine l_eqnil (fun bv1 hbv1 => ?_)
  refine k_nil ?_
  refine f_t ?_
  refine k_nd (fun e0 => ?_) (fun _ => ?_)
  · have e0 := List.eq_nil_of_length_eq_zero (hbv1 e0)
    try rw [e0] at h
    change (some []) = _ at h
    refine k_seq ?_
    refine k_reg ?_
    refine l_assign ?_
    refine k_nil ?_
    refine f_t ?_
    refine k_retc ?_
    refine f_tr ?_
    refine f_nilrow (te := 68) (t := 2) 3002 2 ?_
    apply k_ret [(3002, 1)] hB h
  refine k_skip ?_
  refine f_t ?_
  refine k_seq ?_
  refine k_reg ?_
  refine l_buildSlice0 ?_
  refine l_move ?_
  refine l_appf h (fun v2 _ h => ?_)
  refine l_assign ?_
  refine k_nil ?_
  refine f_t ?_
  refine k_retc ?_
  apply k_ret [(1005, 1)] hB h
theorem slices_Clone_Attr_ok {s : (List TAttr)} {r : (List TAttr)} (h : slices_Clone_Attr s = some r) : XSpec Tryz.prog 139 [.vs s.length (F c_TAttr s)] [] (.sl 1 0 r.length) [(1, .row 120 4 0 (F c_TAttr r))] [] := by
  unfold slices_Clone_Attr at h
  refine X_of_run Tryz.hU Tryz.func139 (fun _ _ _ hB => ?_)
  refine k_seq ?_
  refine k_reg ?_
  refine l_assign ?_
  refine k_nil ?_
  refine f_t ?_
  refine k_seq ?_
  refine k_seq ?_
  refine k_reg ?_
  refine l_move ?_
  refine l_eqnil (fun bv1 hbv1 => ?_)
  refine k_nil ?_
  refine f_t ?_
  refine k_nd (fun e0 => ?_) (fun _ => ?_)
  · have e0 := List.eq_nil_of_length_eq_zero (hbv1 e0)
    try rw [e0] at h
    change (some []) = _ at h
    refine k_seq ?_
    refine k_reg ?_
    refine l_assign ?_
    refine k_nil ?_
    refine f_t ?_
    refine k_retc ?_
    refine f_tr ?_
    refine f_nilrow (te := 120) (t := 2) 3002 4 ?_
    apply k_ret [(3002, 1)] hB h
  refine k_skip ?_
  refine f_t ?_
  refine k_seq ?_
  refine k_reg ?_
  refine l_buildSlice0 ?_
  refine l_move ?_
  refine l_appf h (fun v2 _ h => ?_)
  refine l_assign ?_
  refine k_nil ?_
  refine f_t ?_
  refine k_retc ?_
  apply k_ret [(1005, 1)] hB h
theorem doc_clone_ok {x : TNode} {r : Int × Int × Str × Str × Str × Str × (List TDecl) × (List TAttr)} (h : doc_clone x = some r) : XSpec Tryz.prog 93 [.agg (c_TNode x)] [] (.agg [I r.1, I r.2.1, S r.2.2.1, S r.2.2.2.1, S r.2.2.2.2.1, S r.2.2.2.2.2.1, .sl 1 0 r.2.2.2.2.2.2.1.length, .sl 2 0 r.2.2.2.2.2.2.2.length]) [(1, .row 68 2 0 (F c_TDecl r.2.2.2.2.2.2.1)), (2, .row 120 4 0 (F c_TAttr r.2.2.2.2.2.2.2))] [] := by
  unfold doc_clone at h
  refine X_of_run Tryz.hU Tryz.func93 (fun _ _ _ hB => ?_)
  refine k_seq ?_
  refine k_reg ?_
  refine l_box ?_
  refine l_alloc ?_
  refine k_nil ?_
  refine f_t ?_
  refine k_seq ?_
  refine k_mix [7, 9] (.q 0 (.q 1 (.q 3 (.q 4 (.e 2 (.q 6 (.e 5 (.e 7 (.q 8 (.e 9 (.done))))))))))) hm ?_
  refine gq ?_
  refine n_fieldAddr ?_
  refine gq ?_
  refine n_load ?_
  refine gq ?_
  refine n_fieldAddr ?_
  refine gq ?_
  refine n_load ?_
  refine ge ?_
  refine n_callX [(1, 100501)] [] h (fun _ => slices_Clone_Decl_ok) (fun v1 _ h => ?_)
  refine gq ?_
  refine n_fieldAddr ?_
  refine ge ?_
  refine n_callX [(1, 100801)] [] h (fun _ => slices_Clone_Attr_ok) (fun v2 _ h => ?_)
  refine ge ?_
  refine n_store_box ?_
  refine gq ?_
  refine n_fieldAddr ?_
  refine ge ?_
  refine n_store_box ?_
  refine m_nil ?_
  refine f_t ?_
  refine k_seq ?_
  refine k_reg ?_
  refine l_load_agg ?_
  refine l_store_box ?_
  refine k_nil ?_
  refine f_t ?_
  refine k_retc ?_
  apply k_ret [(100501, 1), (100801, 2)] hB h
theorem doc_Of_ok {l : (List TNode)} {r : (Option TDoc) × Int} (h : doc_Of l = some r) : XSpec Tryz.prog 54 [.vs l.length (F c_TNode l)] [] (.tup [oP c_TDoc r.1, I r.2]) [] [] := by
  unfold doc_Of at h
  refine X_of_run Tryz.hU Tryz.func54 (fun _ _ _ hB => ?_)
  refine k_seq ?_
  refine k_reg ?_
  refine l_assign ?_
  refine l_assign ?_
  refine k_nil ?_
  refine f_t ?_
  refine k_seq ?_
  refine k_reg ?_
  refine l_move ?_
  refine l_call h (fun _ => doc_check_ok) (fun v1 _ h => ?_)
  refine l_move ?_
  refine l_extract ?_
  refine l_extract ?_
  refine l_assign ?_
  refine l_assign ?_
  refine k_nil ?_
  refine f_t ?_
  refine k_seq ?_
  refine k_block ?_
  refine k_seq ?_
  refine k_reg ?_
  refine l_move ?_
  refine l_un ?_
  refine l_assign ?_
  refine k_nil ?_
  refine f_t ?_
  refine k_if h (fun _ h => ?_) (fun _ h => ?_)
  · refine k_seq ?_
    refine k_reg ?_
    refine l_assign ?_
    refine l_assign ?_
    refine k_nil ?_
    refine f_t ?_
    refine k_retc ?_
    refine f_br ?_
    refine f_tr ?_
    apply k_retN [] hB h
  refine k_seq ?_
  refine k_reg ?_
  refine l_move ?_
  refine l_call h (fun _ => doc_within_ok) (fun v2 _ h => ?_)
  refine l_un ?_
  refine l_assign ?_
  refine k_nil ?_
  refine f_t ?_
  refine k_if h (fun _ h => ?_) (fun _ h => ?_)
  · refine k_seq ?_
    refine k_reg ?_
    refine l_assign ?_
    refine l_assign ?_
    refine k_nil ?_
    refine f_t ?_
    refine k_retc ?_
    refine f_br ?_
    refine f_tr ?_
    apply k_retN [] hB h
  refine k_skip ?_
  refine f_b ?_
  refine f_t ?_
  refine k_seq ?_
  refine k_reg ?_
  refine l_move ?_
  refine l_len ?_
  refine l_make (e := cI) (z := 0) h (fun v3 ev3 h => ?_)
  refine l_move ?_
  refine l_build ?_
  refine l_box ?_
  refine l_assign ?_
  refine k_nil ?_
  refine f_t ?_
  refine k_seq ?_
  refine k_seq ?_
  refine k_reg ?_
  refine l_move ?_
  refine l_len ?_
  refine l_move ?_
  refine k_nil ?_
  refine f_t ?_
  refine k_block ?_
  refine k_nilcell (te := 89) (b1 := 1028) (j := 0) 13280 8 ?_
  refine k_loop (fun y4 => ⟨[(0, .vs l.length (F c_TNode l)), (6, .ptr 1028 0), (29, .vs l.length (F c_TNode l)), (30, I (l.length : Int)), (31, I y4.1)], [(1028, .box 141 [.sl 13280 0 y4.2.length, .sl 1025 0 v3.length, I v1.1]), (13280, .row 89 8 0 (F c_TNode y4.2)), (1025, .row 3 1 0 (F cI v3))], []⟩) (fun q8 => (.exit 1, ⟨[(0, .vs l.length (F c_TNode l)), (6, .ptr 1028 0)], [(1028, .box 141 [.sl 13280 0 q8.length, .sl 1025 0 v3.length, I v1.1]), (13280, .row 89 8 0 (F c_TNode q8)), (1025, .row 3 1 0 (F cI v3))], []⟩)) [(1028, 1028), (13280, 13280), (1025, 1025)] hB h (fun y4 t h => ?_) (fun q8 h => ?_)
  · unfold doc_Of_b1 at h
    refine k_seq ?_
    refine k_reg ?_
    refine l_cmp ?_
    refine k_nil ?_
    refine f_t ?_
    refine k_seq ?_
    refine k_if h (fun _ h => ?_) (fun _ h => ?_)
    · refine k_skip ?_
      refine f_t ?_
      refine k_seq ?_
      refine k_block ?_
      refine k_seq ?_
      refine k_reg ?_
      refine l_at h (fun v5 _ h => ?_)
      refine l_load_agg ?_
      refine l_alloc ?_
      refine l_store_box ?_
      refine k_nil ?_
      refine f_t ?_
      refine k_mix [8, 11] (.q 1 (.q 2 (.q 3 (.q 4 (.q 5 (.s 0 (.e 6 (.e 7 (.e 8 (.q 9 (.q 10 (.e 11 (.done))))))))))))) hm ?_
      refine gq ?_
      refine n_move ?_
      refine gq ?_
      refine n_nilCheck ?_
      refine gq ?_
      refine n_fieldAddr ?_
      refine gq ?_
      refine n_load ?_
      refine gq ?_
      refine n_load_agg ?_
      refine gs ?_
      refine x_move ?_
      refine ge ?_
      refine n_callX [(1, 104101), (2, 104102)] [] h (fun _ => doc_clone_ok) (fun v6 _ h => ?_)
      refine m_frz 104101 ?_
      refine m_frz 104102 ?_
      refine ge ?_
      refine n_lit (e := c_TNode) [(TNode.mk v6.1 v6.2.1 v6.2.2.1 v6.2.2.2.1 v6.2.2.2.2.1 v6.2.2.2.2.2.1 v6.2.2.2.2.2.2.1 v6.2.2.2.2.2.2.2)] ?_
      refine ge ?_
      refine n_appo h (fun v7 _ h => ?_)
      refine gq ?_
      refine n_nilCheck ?_
      refine gq ?_
      refine n_fieldAddr ?_
      refine ge ?_
      refine n_store_box ?_
      refine m_nil ?_
      refine f_b ?_
      refine f_t ?_
      refine k_reg ?_
      refine l_addw ?_
      refine l_move ?_
      refine k_nil ?_
      exact k_next [(1028, 1028), (13280, 13280), (1025, 1025)] hB h
    refine k_exit ?_
    refine f_te ?_
    exact k_brk [(1028, 1028), (13280, 13280), (1025, 1025)] hB h
  refine f_be ?_
  refine f_t ?_
  refine k_seq ?_
  refine k_seq ?_
  refine k_reg ?_
  refine l_move ?_
  refine l_len ?_
  refine l_subw ?_
  refine l_assign ?_
  refine k_nil ?_
  refine f_t ?_
  refine k_block ?_
  refine k_loop (fun y9 => ⟨[(0, .vs l.length (F c_TNode l)), (6, .ptr 1028 0), (9, I y9.1)], [(1028, .box 141 [.sl 13280 0 q8.length, .sl 1025 0 y9.2.length, I v1.1]), (13280, .row 89 8 0 (F c_TNode q8)), (1025, .row 3 1 0 (F cI y9.2))], []⟩) (fun q18 => (.exit 3, ⟨[(6, .ptr 1028 0)], [(1028, .box 141 [.sl 13280 0 q8.length, .sl 1025 0 q18.length, I v1.1]), (13280, .row 89 8 0 (F c_TNode q8)), (1025, .row 3 1 0 (F cI q18))], []⟩)) [(1028, 1028), (13280, 13280), (1025, 1025)] hB h (fun y9 t h => ?_) (fun q18 h => ?_)
  · unfold doc_Of_b2 at h
    refine k_seq ?_
    refine k_seq ?_
    refine k_reg ?_
    refine l_move ?_
    refine l_cmp ?_
    refine k_nil ?_
    refine f_t ?_
    refine k_if h (fun _ h => ?_) (fun _ h => ?_)
    · refine k_skip ?_
      refine f_t ?_
      refine k_seq ?_
      refine k_block ?_
      refine k_seq ?_
      refine k_mix [16] (.q 0 (.q 1 (.q 2 (.q 3 (.q 4 (.q 5 (.q 6 (.q 7 (.q 8 (.q 9 (.q 10 (.q 11 (.q 12 (.q 13 (.q 14 (.q 15 (.e 16 (.done)))))))))))))))))) hm ?_
      refine gq ?_
      refine n_move ?_
      refine gq ?_
      refine n_nilCheck ?_
      refine gq ?_
      refine n_fieldAddr ?_
      refine gq ?_
      refine n_load ?_
      refine gq ?_
      refine n_move ?_
      refine gq ?_
      refine n_move ?_
      refine gq ?_
      refine n_nilCheck ?_
      refine gq ?_
      refine n_fieldAddr ?_
      refine gq ?_
      refine n_load ?_
      refine gq ?_
      refine n_move ?_
      refine gq ?_
      refine n_ato h (fun v10 ev10 h => ?_)
      refine gq ?_
      refine n_ldr0 ev10 ?_
      refine gq ?_
      refine n_move ?_
      refine gq ?_
      refine n_addw ?_
      refine gq ?_
      refine n_max2 ?_
      refine gq ?_
      refine n_ato h (fun v11 ev11 h => ?_)
      refine ge ?_
      refine n_put0 ev11 h (fun v12 ev12 h => ?_)
      refine m_nil ?_
      refine f_t ?_
      refine k_seq ?_
      refine k_reg ?_
      refine l_move ?_
      refine l_move ?_
      refine l_at h (fun v13 _ h => ?_)
      refine l_fieldAddr ?_
      refine l_load ?_
      refine l_assign ?_
      refine k_nil ?_
      refine f_t ?_
      refine k_seq ?_
      refine k_reg ?_
      refine l_move ?_
      refine l_cmp ?_
      refine k_nil ?_
      refine f_t ?_
      refine k_if h (fun _ h => ?_) (fun _ h => ?_)
      · refine k_mix [21] (.q 0 (.q 1 (.q 2 (.q 3 (.q 4 (.q 5 (.q 6 (.q 7 (.q 8 (.q 9 (.q 10 (.q 11 (.q 12 (.q 13 (.q 14 (.q 15 (.q 16 (.q 17 (.q 18 (.q 19 (.q 20 (.e 21 (.done))))))))))))))))))))))) hm ?_
        refine gq ?_
        refine n_move ?_
        refine gq ?_
        refine n_nilCheck ?_
        refine gq ?_
        refine n_fieldAddr ?_
        refine gq ?_
        refine n_load ?_
        refine gq ?_
        refine n_move ?_
        refine gq ?_
        refine n_move ?_
        refine gq ?_
        refine n_nilCheck ?_
        refine gq ?_
        refine n_fieldAddr ?_
        refine gq ?_
        refine n_load ?_
        refine gq ?_
        refine n_move ?_
        refine m_relen 85 v12.length ?_
        refine gq ?_
        refine n_ato h (fun v14 ev14 h => ?_)
        refine gq ?_
        refine n_ldr0 ev14 ?_
        refine gq ?_
        refine n_move ?_
        refine gq ?_
        refine n_nilCheck ?_
        refine gq ?_
        refine n_fieldAddr ?_
        refine gq ?_
        refine n_load ?_
        refine gq ?_
        refine n_move ?_
        refine m_relen 92 v12.length ?_
        refine gq ?_
        refine n_ato h (fun v15 ev15 h => ?_)
        refine gq ?_
        refine n_ldr0 ev15 ?_
        refine gq ?_
        refine n_max2 ?_
        refine m_relen 80 v12.length ?_
        refine gq ?_
        refine n_ato h (fun v16 ev16 h => ?_)
        refine ge ?_
        refine n_put0 ev16 h (fun v17 ev17 h => ?_)
        refine m_nil ?_
        refine f_b ?_
        refine f_t ?_
        refine k_reg ?_
        refine l_move ?_
        refine l_subw ?_
        refine l_assign ?_
        refine k_nil ?_
        refine f_relenc 1028 1 v17.length ?_
        exact k_next [(1028, 1028), (13280, 13280), (1025, 1025)] hB h
      refine k_skip ?_
      refine f_b ?_
      refine f_t ?_
      refine k_reg ?_
      refine l_move ?_
      refine l_subw ?_
      refine l_assign ?_
      refine k_nil ?_
      refine f_relenc 1028 1 v12.length ?_
      exact k_next [(1028, 1028), (13280, 13280), (1025, 1025)] hB h
    refine k_exit ?_
    refine f_te ?_
    exact k_brk [(1028, 1028), (13280, 13280), (1025, 1025)] hB h
  refine f_be ?_
  refine f_t ?_
  refine k_seq ?_
  refine k_reg ?_
  refine l_move ?_
  refine l_assign ?_
  refine l_assign ?_
  refine k_nil ?_
  refine f_t ?_
  refine k_retc ?_
  refine f_frz 13280 ?_
  refine f_frz 1025 ?_
  refine f_frz 1028 ?_
  apply k_ret [] hB h
theorem parse_reader_blanks_s5_ok {u1 : Str} {u2 : Bool} {u3 : (List TNode)} {u4 : (List TOpen_)} {u5 : (List UInt8)} {r : Bool × Str} (h : parse_reader_blanks_s5 u1 u2 u3 u4 u5 = some r) : XSpec Tryz.prog 80 [.ptr 5000101 0] [(5000101, .box 95 [S u1, .sl 5000102 0 u3.length, .sl 5000103 0 u4.length, .pl (.pointer none), .sl 5000104 0 u5.length, B u2]), (5000102, .row 89 8 0 (F c_TNode u3)), (5000103, .row 168 2 0 (F c_TOpen_ u4)), (5000104, .row 5 1 0 (F cU u5))] (B r.1) [(5000101, .box 95 [S r.2, .sl 5000102 0 u3.length, .sl 5000103 0 u4.length, .pl (.pointer none), .sl 5000104 0 u5.length, B u2]), (5000102, .row 89 8 0 (F c_TNode u3)), (5000103, .row 168 2 0 (F c_TOpen_ u4)), (5000104, .row 5 1 0 (F cU u5))] [] := by
  unfold parse_reader_blanks_s5 at h
  refine X_of_run Tryz.hU Tryz.func80 (fun _ _ _ hB => ?_)
  refine k_seq ?_
  refine k_reg ?_
  refine l_assign ?_
  refine k_nil ?_
  refine f_t ?_
  refine k_seq ?_
  refine k_reg ?_
  refine l_assign ?_
  refine k_nil ?_
  refine f_t ?_
  refine k_seq ?_
  refine k_block ?_
  refine k_loop (fun y1 => ⟨[(0, .ptr 5000101 0), (3, I y1)], [(5000101, .box 95 [S u1, .sl 5000102 0 u3.length, .sl 5000103 0 u4.length, .pl (.pointer none), .sl 5000104 0 u5.length, B u2]), (5000102, .row 89 8 0 (F c_TNode u3)), (5000103, .row 168 2 0 (F c_TOpen_ u4)), (5000104, .row 5 1 0 (F cU u5))], []⟩) (fun q4 => (.exit 0, ⟨[(0, .ptr 5000101 0), (3, I q4)], [(5000101, .box 95 [S u1, .sl 5000102 0 u3.length, .sl 5000103 0 u4.length, .pl (.pointer none), .sl 5000104 0 u5.length, B u2]), (5000102, .row 89 8 0 (F c_TNode u3)), (5000103, .row 168 2 0 (F c_TOpen_ u4)), (5000104, .row 5 1 0 (F cU u5))], []⟩)) [(5000101, 5000101), (5000102, 5000102), (5000103, 5000103), (5000104, 5000104)] hB h (fun y1 t h => ?_) (fun q4 h => ?_)
  · unfold parse_reader_blanks_s5_b1 at h
    refine k_seq ?_
    refine k_seq ?_
    refine k_reg ?_
    refine l_move ?_
    refine l_move ?_
    refine l_nilCheck ?_
    refine l_fieldAddr ?_
    refine l_load ?_
    refine l_lens ?_
    refine l_cmp ?_
    refine l_move ?_
    refine l_split h (fun _ h => ?_) (fun _ h => ?_)
    · refine l_on ?_
      refine l_move ?_
      refine l_on ?_
      refine l_nilCheck ?_
      refine l_on ?_
      refine l_fieldAddr ?_
      refine l_on ?_
      refine l_load ?_
      refine l_on ?_
      refine l_move ?_
      refine l_on ?_
      refine l_ats h (fun v2 _ h => ?_)
      refine l_on ?_
      refine l_call h (fun _ => name_Blank_ok) (fun v3 _ h => ?_)
      refine l_pick_true ?_
      refine k_nil ?_
      refine f_t ?_
      refine k_if h (fun _ h => ?_) (fun _ h => ?_)
      · refine k_skip ?_
        refine f_t ?_
        refine k_block ?_
        refine k_reg ?_
        refine l_move ?_
        refine l_addw ?_
        refine l_assign ?_
        refine k_nil ?_
        refine f_b ?_
        exact k_next [(5000101, 5000101), (5000102, 5000102), (5000103, 5000103), (5000104, 5000104)] hB h
      refine k_exit ?_
      refine f_te ?_
      exact k_brk [(5000101, 5000101), (5000102, 5000102), (5000103, 5000103), (5000104, 5000104)] hB h
    refine l_off ?_
    refine l_off ?_
    refine l_off ?_
    refine l_off ?_
    refine l_off ?_
    refine l_off ?_
    refine l_off ?_
    refine l_pick_false ?_
    refine k_nil ?_
    refine f_t ?_
    refine k_f ?_
    refine k_exit ?_
    refine f_te ?_
    exact k_brk [(5000101, 5000101), (5000102, 5000102), (5000103, 5000103), (5000104, 5000104)] hB h
  refine f_be ?_
  refine f_t ?_
  refine k_seq ?_
  refine k_reg ?_
  refine l_move ?_
  refine l_move ?_
  refine l_nilCheck ?_
  refine l_fieldAddr ?_
  refine l_load ?_
  refine l_move ?_
  refine l_subs h (fun v5 _ h => ?_)
  refine l_nilCheck ?_
  refine l_fieldAddr ?_
  refine l_store_box ?_
  refine k_nil ?_
  refine f_t ?_
  refine k_seq ?_
  refine k_reg ?_
  refine l_move ?_
  refine l_cmp ?_
  refine l_assign ?_
  refine k_nil ?_
  refine f_t ?_
  refine k_retc ?_
  apply k_ret [(5000101, 5000101), (5000102, 5000102), (5000103, 5000103), (5000104, 5000104)] hB h
theorem parse_reader_take_s7_ok {u1 : Str} {u2 : Str} {u3 : Bool} {u4 : (List TNode)} {u5 : (List TOpen_)} {u6 : (List UInt8)} {r : Bool × Str} (h : parse_reader_take_s7 u1 u2 u3 u4 u5 u6 = some r) : XSpec Tryz.prog 84 [.ptr 7000101 0, S u1] [(7000101, .box 95 [S u2, .sl 7000102 0 u4.length, .sl 7000103 0 u5.length, .pl (.pointer none), .sl 7000104 0 u6.length, B u3]), (7000102, .row 89 8 0 (F c_TNode u4)), (7000103, .row 168 2 0 (F c_TOpen_ u5)), (7000104, .row 5 1 0 (F cU u6))] (B r.1) [(7000101, .box 95 [S r.2, .sl 7000102 0 u4.length, .sl 7000103 0 u5.length, .pl (.pointer none), .sl 7000104 0 u6.length, B u3]), (7000102, .row 89 8 0 (F c_TNode u4)), (7000103, .row 168 2 0 (F c_TOpen_ u5)), (7000104, .row 5 1 0 (F cU u6))] [] := by
  unfold parse_reader_take_s7 at h
  refine X_of_run Tryz.hU Tryz.func84 (fun _ _ _ hB => ?_)
  refine k_seq ?_
  refine k_reg ?_
  refine l_assign ?_
  refine k_nil ?_
  refine f_t ?_
  refine k_seq ?_
  refine k_reg ?_
  refine l_move ?_
  refine l_nilCheck ?_
  refine l_fieldAddr ?_
  refine l_load ?_
  refine l_move ?_
  refine l_call h (fun _ => strings_CutPrefix_ok) (fun v1 _ h => ?_)
  refine l_move ?_
  refine l_extract ?_
  refine l_extract ?_
  refine l_assign ?_
  refine l_assign ?_
  refine k_nil ?_
  refine f_t ?_
  refine k_seq ?_
  refine k_seq ?_
  refine k_reg ?_
  refine l_move ?_
  refine k_nil ?_
  refine f_t ?_
  refine k_if h (fun _ h => ?_) (fun _ h => ?_)
  · refine k_reg ?_
    refine l_move ?_
    refine l_move ?_
    refine l_nilCheck ?_
    refine l_fieldAddr ?_
    refine l_store_box ?_
    refine k_nil ?_
    refine f_t ?_
    refine k_seq ?_
    refine k_reg ?_
    refine l_move ?_
    refine l_assign ?_
    refine k_nil ?_
    refine f_t ?_
    refine k_retc ?_
    apply k_ret [(7000101, 7000101), (7000102, 7000102), (7000103, 7000103), (7000104, 7000104)] hB h
  refine k_skip ?_
  refine f_t ?_
  refine k_seq ?_
  refine k_reg ?_
  refine l_move ?_
  refine l_assign ?_
  refine k_nil ?_
  refine f_t ?_
  refine k_retc ?_
  apply k_ret [(7000101, 7000101), (7000102, 7000102), (7000103, 7000103), (7000104, 7000104)] hB h
theorem parse_reader_until_s9_ok {u1 : Str} {u2 : Str} {u3 : Bool} {u4 : (List TNode)} {u5 : (List TOpen_)} {u6 : (List UInt8)} {r : Str × Bool × Str} (h : parse_reader_until_s9 u1 u2 u3 u4 u5 u6 = some r) : XSpec Tryz.prog 85 [.ptr 9000101 0, S u1] [(9000101, .box 95 [S u2, .sl 9000102 0 u4.length, .sl 9000103 0 u5.length, .pl (.pointer none), .sl 9000104 0 u6.length, B u3]), (9000102, .row 89 8 0 (F c_TNode u4)), (9000103, .row 168 2 0 (F c_TOpen_ u5)), (9000104, .row 5 1 0 (F cU u6))] (.tup [S r.1, B r.2.1]) [(9000101, .box 95 [S r.2.2, .sl 9000102 0 u4.length, .sl 9000103 0 u5.length, .pl (.pointer none), .sl 9000104 0 u6.length, B u3]), (9000102, .row 89 8 0 (F c_TNode u4)), (9000103, .row 168 2 0 (F c_TOpen_ u5)), (9000104, .row 5 1 0 (F cU u6))] [] := by
  unfold parse_reader_until_s9 at h
  refine X_of_run Tryz.hU Tryz.func85 (fun _ _ _ hB => ?_)
  refine k_seq ?_
  refine k_reg ?_
  refine l_assign ?_
  refine l_assign ?_
  refine k_nil ?_
  refine f_t ?_
  refine k_seq ?_
  refine k_reg ?_
  refine l_move ?_
  refine l_nilCheck ?_
  refine l_fieldAddr ?_
  refine l_load ?_
  refine l_move ?_
  refine l_call h (fun _ => strings_Cut_ok) (fun v1 _ h => ?_)
  refine l_move ?_
  refine l_extract ?_
  refine l_extract ?_
  refine l_extract ?_
  refine l_assign ?_
  refine l_assign ?_
  refine l_assign ?_
  refine k_nil ?_
  refine f_t ?_
  refine k_seq ?_
  refine k_seq ?_
  refine k_reg ?_
  refine l_move ?_
  refine k_nil ?_
  refine f_t ?_
  refine k_if h (fun _ h => ?_) (fun _ h => ?_)
  · refine k_reg ?_
    refine l_move ?_
    refine l_move ?_
    refine l_nilCheck ?_
    refine l_fieldAddr ?_
    refine l_store_box ?_
    refine k_nil ?_
    refine f_t ?_
    refine k_seq ?_
    refine k_reg ?_
    refine l_move ?_
    refine l_move ?_
    refine l_assign ?_
    refine l_assign ?_
    refine k_nil ?_
    refine f_t ?_
    refine k_retc ?_
    apply k_ret [(9000101, 9000101), (9000102, 9000102), (9000103, 9000103), (9000104, 9000104)] hB h
  refine k_skip ?_
  refine f_t ?_
  refine k_seq ?_
  refine k_reg ?_
  refine l_move ?_
  refine l_move ?_
  refine l_assign ?_
  refine l_assign ?_
  refine k_nil ?_
  refine f_t ?_
  refine k_retc ?_
  apply k_ret [(9000101, 9000101), (9000102, 9000102), (9000103, 9000103), (9000104, 9000104)] hB h
theorem parse_reader_quoted_s8_ok {u1 : Str} {u2 : Bool} {u3 : (List TNode)} {u4 : (List TOpen_)} {u5 : (List UInt8)} {r : Str × Bool × Str} (h : parse_reader_quoted_s8 u1 u2 u3 u4 u5 = some r) : XSpec Tryz.prog 122 [.ptr 8000101 0] [(8000101, .box 95 [S u1, .sl 8000102 0 u3.length, .sl 8000103 0 u4.length, .pl (.pointer none), .sl 8000104 0 u5.length, B u2]), (8000102, .row 89 8 0 (F c_TNode u3)), (8000103, .row 168 2 0 (F c_TOpen_ u4)), (8000104, .row 5 1 0 (F cU u5))] (.tup [S r.1, B r.2.1]) [(8000101, .box 95 [S r.2.2, .sl 8000102 0 u3.length, .sl 8000103 0 u4.length, .pl (.pointer none), .sl 8000104 0 u5.length, B u2]), (8000102, .row 89 8 0 (F c_TNode u3)), (8000103, .row 168 2 0 (F c_TOpen_ u4)), (8000104, .row 5 1 0 (F cU u5))] [] := by
  unfold parse_reader_quoted_s8 at h
  refine X_of_run Tryz.hU Tryz.func122 (fun _ _ _ hB => ?_)
  refine k_seq ?_
  refine k_reg ?_
  refine l_assign ?_
  refine l_assign ?_
  refine k_nil ?_
  refine f_t ?_
  refine k_seq ?_
  refine k_reg ?_
  refine l_move ?_
  refine l_callX [(5000101, 8000101), (5000102, 8000102), (5000103, 8000103), (5000104, 8000104)] [8000101, 8000102, 8000103, 8000104] h (fun _ => parse_reader_blanks_s5_ok) (fun v1 _ h => ?_)
  refine k_nil ?_
  refine f_t ?_
  refine k_seq ?_
  refine k_seq ?_
  refine k_reg ?_
  refine l_move ?_
  refine l_callX [(7000101, 8000101), (7000102, 8000102), (7000103, 8000103), (7000104, 8000104)] [8000101, 8000102, 8000103, 8000104] h (fun _ => parse_reader_take_s7_ok) (fun v2 _ h => ?_)
  refine l_un ?_
  refine k_nil ?_
  refine f_t ?_
  refine k_if h (fun _ h => ?_) (fun _ h => ?_)
  · refine k_seq ?_
    refine k_reg ?_
    refine l_assign ?_
    refine l_assign ?_
    refine k_nil ?_
    refine f_t ?_
    refine k_retc ?_
    refine f_tr ?_
    apply k_ret [(8000101, 8000101), (8000102, 8000102), (8000103, 8000103), (8000104, 8000104)] hB h
  refine k_skip ?_
  refine f_t ?_
  refine k_seq ?_
  refine k_reg ?_
  refine l_move ?_
  refine l_callX [(5000101, 8000101), (5000102, 8000102), (5000103, 8000103), (5000104, 8000104)] [8000101, 8000102, 8000103, 8000104] h (fun _ => parse_reader_blanks_s5_ok) (fun v3 _ h => ?_)
  refine k_nil ?_
  refine f_t ?_
  refine k_seq ?_
  refine k_seq ?_
  refine k_cut (fun q6 => (.normal, ⟨[(0, .ptr 8000101 0), (25, B q6)], [(8000101, .box 95 [S v3.2, .sl 8000102 0 u3.length, .sl 8000103 0 u4.length, .pl (.pointer none), .sl 8000104 0 u5.length, B u2]), (8000102, .row 89 8 0 (F c_TNode u3)), (8000103, .row 168 2 0 (F c_TOpen_ u4)), (8000104, .row 5 1 0 (F cU u5))], []⟩)) h (fun t h => ?_) (fun q6 h => ?_)
  · refine k_reg ?_
    refine l_move ?_
    refine l_nilCheck ?_
    refine l_fieldAddr ?_
    refine l_load ?_
    refine l_seq ?_
    refine l_move ?_
    refine l_split h (fun _ h => ?_) (fun _ h => ?_)
    · refine l_off ?_
      refine l_off ?_
      refine l_off ?_
      refine l_off ?_
      refine l_off ?_
      refine l_off ?_
      refine l_off ?_
      refine l_pick_true ?_
      refine k_nil ?_
      exact k_out [(8000101, 8000101), (8000102, 8000102), (8000103, 8000103), (8000104, 8000104)] hB h
    refine l_on ?_
    refine l_move ?_
    refine l_on ?_
    refine l_nilCheck ?_
    refine l_on ?_
    refine l_fieldAddr ?_
    refine l_on ?_
    refine l_load ?_
    refine l_on ?_
    refine l_subs h (fun v4 _ h => ?_)
    refine l_on ?_
    refine l_call h (fun _ => strings_Contains_ok) (fun v5 _ h => ?_)
    refine l_on ?_
    refine l_un ?_
    refine l_pick_false ?_
    refine k_nil ?_
    exact k_out [(8000101, 8000101), (8000102, 8000102), (8000103, 8000103), (8000104, 8000104)] hB h
  refine f_t ?_
  refine k_if h (fun _ h => ?_) (fun _ h => ?_)
  · refine k_seq ?_
    refine k_reg ?_
    refine l_assign ?_
    refine l_assign ?_
    refine k_nil ?_
    refine f_t ?_
    refine k_retc ?_
    refine f_tr ?_
    apply k_ret [(8000101, 8000101), (8000102, 8000102), (8000103, 8000103), (8000104, 8000104)] hB h
  refine k_skip ?_
  refine f_t ?_
  refine k_seq ?_
  refine k_reg ?_
  refine l_move ?_
  refine l_nilCheck ?_
  refine l_fieldAddr ?_
  refine l_load ?_
  refine l_subs h (fun v7 _ h => ?_)
  refine l_assign ?_
  refine k_nil ?_
  refine f_t ?_
  refine k_seq ?_
  refine k_reg ?_
  refine l_move ?_
  refine l_move ?_
  refine l_nilCheck ?_
  refine l_fieldAddr ?_
  refine l_load ?_
  refine l_subs h (fun v8 _ h => ?_)
  refine l_nilCheck ?_
  refine l_fieldAddr ?_
  refine l_store_box ?_
  refine k_nil ?_
  refine f_t ?_
  refine k_seq ?_
  refine k_reg ?_
  refine l_move ?_
  refine l_move ?_
  refine l_callX [(9000101, 8000101), (9000102, 8000102), (9000103, 8000103), (9000104, 8000104)] [8000101, 8000102, 8000103, 8000104] h (fun _ => parse_reader_until_s9_ok) (fun v9 _ h => ?_)
  refine l_extract ?_
  refine l_extract ?_
  refine l_assign ?_
  refine l_assign ?_
  refine k_nil ?_
  refine f_t ?_
  refine k_retc ?_
  apply k_ret [(8000101, 8000101), (8000102, 8000102), (8000103, 8000103), (8000104, 8000104)] hB h
theorem parse_reader_said_s6_ok {u1 : Str} {u2 : Str} {u3 : Bool} {u4 : (List TNode)} {u5 : (List TOpen_)} {u6 : (List UInt8)} {u7 : (List Str)} {r : Bool × Str} (h : parse_reader_said_s6 u1 u2 u3 u4 u5 u6 u7 = some r) : XSpec Tryz.prog 82 [.ptr 6000101 0, S u1, .sl 6000105 0 u7.length] [(6000101, .box 95 [S u2, .sl 6000102 0 u4.length, .sl 6000103 0 u5.length, .pl (.pointer none), .sl 6000104 0 u6.length, B u3]), (6000102, .row 89 8 0 (F c_TNode u4)), (6000103, .row 168 2 0 (F c_TOpen_ u5)), (6000104, .row 5 1 0 (F cU u6)), (6000105, .row 9 1 0 (F cS u7))] (B r.1) [(6000101, .box 95 [S r.2, .sl 6000102 0 u4.length, .sl 6000103 0 u5.length, .pl (.pointer none), .sl 6000104 0 u6.length, B u3]), (6000102, .row 89 8 0 (F c_TNode u4)), (6000103, .row 168 2 0 (F c_TOpen_ u5)), (6000104, .row 5 1 0 (F cU u6)), (6000105, .row 9 1 0 (F cS u7))] [] := by
  unfold parse_reader_said_s6 at h
  refine X_of_run Tryz.hU Tryz.func82 (fun _ _ _ hB => ?_)
  refine k_seq ?_
  refine k_reg ?_
  refine l_assign ?_
  refine k_nil ?_
  refine f_t ?_
  refine k_seq ?_
  refine k_reg ?_
  refine l_move ?_
  refine l_nilCheck ?_
  refine l_fieldAddr ?_
  refine l_load ?_
  refine l_assign ?_
  refine k_nil ?_
  refine f_t ?_
  refine k_seq ?_
  refine k_seq ?_
  refine k_cut (fun q3 => (.normal, ⟨[(0, .ptr 6000101 0), (2, .sl 6000105 0 u7.length), (7, S u2), (24, B q3.1)], [(6000101, .box 95 [S q3.2, .sl 6000102 0 u4.length, .sl 6000103 0 u5.length, .pl (.pointer none), .sl 6000104 0 u6.length, B u3]), (6000102, .row 89 8 0 (F c_TNode u4)), (6000103, .row 168 2 0 (F c_TOpen_ u5)), (6000104, .row 5 1 0 (F cU u6)), (6000105, .row 9 1 0 (F cS u7))], []⟩)) h (fun t h => ?_) (fun q3 h => ?_)
  · refine k_reg ?_
    refine l_move ?_
    refine l_callX [(5000101, 6000101), (5000102, 6000102), (5000103, 6000103), (5000104, 6000104)] [6000101, 6000102, 6000103, 6000104] h (fun _ => parse_reader_blanks_s5_ok) (fun v1 _ h => ?_)
    refine l_un ?_
    refine l_move ?_
    refine l_split h (fun _ h => ?_) (fun _ h => ?_)
    · refine l_off ?_
      refine l_off ?_
      refine l_off ?_
      refine l_off ?_
      refine l_pick_true ?_
      refine k_nil ?_
      exact k_out [(6000101, 6000101), (6000102, 6000102), (6000103, 6000103), (6000104, 6000104), (6000105, 6000105)] hB h
    refine l_on ?_
    refine l_move ?_
    refine l_on ?_
    refine l_move ?_
    refine l_on ?_
    refine l_callX [(7000101, 6000101), (7000102, 6000102), (7000103, 6000103), (7000104, 6000104)] [6000101, 6000102, 6000103, 6000104] h (fun _ => parse_reader_take_s7_ok) (fun v2 _ h => ?_)
    refine l_on ?_
    refine l_un ?_
    refine l_pick_false ?_
    refine k_nil ?_
    exact k_out [(6000101, 6000101), (6000102, 6000102), (6000103, 6000103), (6000104, 6000104), (6000105, 6000105)] hB h
  refine f_t ?_
  refine k_if h (fun _ h => ?_) (fun _ h => ?_)
  · refine k_seq ?_
    refine k_reg ?_
    refine l_move ?_
    refine l_move ?_
    refine l_nilCheck ?_
    refine l_fieldAddr ?_
    refine l_store_box ?_
    refine k_nil ?_
    refine f_t ?_
    refine k_seq ?_
    refine k_reg ?_
    refine l_assign ?_
    refine k_nil ?_
    refine f_t ?_
    refine k_retc ?_
    refine f_tr ?_
    apply k_ret [(6000101, 6000101), (6000102, 6000102), (6000103, 6000103), (6000104, 6000104), (6000105, 6000105)] hB h
  refine k_skip ?_
  refine f_t ?_
  refine k_seq ?_
  refine k_reg ?_
  refine l_move ?_
  refine l_callX [(8000101, 6000101), (8000102, 6000102), (8000103, 6000103), (8000104, 6000104)] [6000101, 6000102, 6000103, 6000104] h (fun _ => parse_reader_quoted_s8_ok) (fun v4 _ h => ?_)
  refine l_move ?_
  refine l_extract ?_
  refine l_extract ?_
  refine l_assign ?_
  refine l_assign ?_
  refine k_nil ?_
  refine f_t ?_
  refine k_seq ?_
  refine k_seq ?_
  refine k_reg ?_
  refine l_move ?_
  refine l_len ?_
  refine l_move ?_
  refine k_nil ?_
  refine f_t ?_
  refine k_block ?_
  refine k_loop (fun y5 => ⟨[(8, S v4.1), (9, B v4.2.1), (34, .sl 6000105 0 u7.length), (35, I (u7.length : Int)), (36, I y5)], [(6000101, .box 95 [S v4.2.2, .sl 6000102 0 u4.length, .sl 6000103 0 u5.length, .pl (.pointer none), .sl 6000104 0 u6.length, B u3]), (6000102, .row 89 8 0 (F c_TNode u4)), (6000103, .row 168 2 0 (F c_TOpen_ u5)), (6000104, .row 5 1 0 (F cU u6)), (6000105, .row 9 1 0 (F cS u7))], []⟩) (Sum.elim (fun q7 => (.ret, ⟨[(6, B true)], [(6000101, .box 95 [S v4.2.2, .sl 6000102 0 u4.length, .sl 6000103 0 u5.length, .pl (.pointer none), .sl 6000104 0 u6.length, B u3]), (6000102, .row 89 8 0 (F c_TNode u4)), (6000103, .row 168 2 0 (F c_TOpen_ u5)), (6000104, .row 5 1 0 (F cU u6)), (6000105, .row 9 1 0 (F cS u7))], []⟩)) (fun q8 => (.exit 0, ⟨[], [(6000101, .box 95 [S v4.2.2, .sl 6000102 0 u4.length, .sl 6000103 0 u5.length, .pl (.pointer none), .sl 6000104 0 u6.length, B u3]), (6000102, .row 89 8 0 (F c_TNode u4)), (6000103, .row 168 2 0 (F c_TOpen_ u5)), (6000104, .row 5 1 0 (F cU u6)), (6000105, .row 9 1 0 (F cS u7))], []⟩))) [(6000101, 6000101), (6000102, 6000102), (6000103, 6000103), (6000104, 6000104), (6000105, 6000105)] hB h (fun y5 t h => ?_) (fun q h => ?_)
  · unfold parse_reader_said_s6_b1 at h
    refine k_seq ?_
    refine k_reg ?_
    refine l_cmp ?_
    refine k_nil ?_
    refine f_t ?_
    refine k_seq ?_
    refine k_if h (fun _ h => ?_) (fun _ h => ?_)
    · refine k_skip ?_
      refine f_t ?_
      refine k_seq ?_
      refine k_block ?_
      refine k_seq ?_
      refine k_reg ?_
      refine l_ato h (fun v6 ev6 h => ?_)
      refine l_ldr0 ev6 ?_
      refine l_assign ?_
      refine k_nil ?_
      refine f_t ?_
      refine k_seq ?_
      refine k_reg ?_
      refine l_move ?_
      refine l_move ?_
      refine l_split h (fun _ h => ?_) (fun _ h => ?_)
      · refine l_on ?_
        refine l_move ?_
        refine l_on ?_
        refine l_move ?_
        refine l_on ?_
        refine l_seq ?_
        refine l_pick_true ?_
        refine k_nil ?_
        refine f_t ?_
        refine k_if h (fun _ h => ?_) (fun _ h => ?_)
        · refine k_seq ?_
          refine k_reg ?_
          refine l_assign ?_
          refine k_nil ?_
          refine f_t ?_
          refine k_retc ?_
          refine f_br ?_
          refine f_tr ?_
          exact k_brk [(6000101, 6000101), (6000102, 6000102), (6000103, 6000103), (6000104, 6000104), (6000105, 6000105)] hB h
        refine k_skip ?_
        refine f_b ?_
        refine f_t ?_
        refine k_reg ?_
        refine l_addw ?_
        refine l_move ?_
        refine k_nil ?_
        exact k_next [(6000101, 6000101), (6000102, 6000102), (6000103, 6000103), (6000104, 6000104), (6000105, 6000105)] hB h
      refine l_off ?_
      refine l_off ?_
      refine l_off ?_
      refine l_pick_false ?_
      refine k_nil ?_
      refine f_t ?_
      refine k_f ?_
      refine k_skip ?_
      refine f_b ?_
      refine f_t ?_
      refine k_reg ?_
      refine l_addw ?_
      refine l_move ?_
      refine k_nil ?_
      exact k_next [(6000101, 6000101), (6000102, 6000102), (6000103, 6000103), (6000104, 6000104), (6000105, 6000105)] hB h
    refine k_exit ?_
    refine f_te ?_
    exact k_brk [(6000101, 6000101), (6000102, 6000102), (6000103, 6000103), (6000104, 6000104), (6000105, 6000105)] hB h
  rcases q with q7 | q8
  · dsimp only [Sum.elim] at h ⊢
    refine f_br ?_
    refine f_tr ?_
    apply k_ret [(6000101, 6000101), (6000102, 6000102), (6000103, 6000103), (6000104, 6000104), (6000105, 6000105)] hB h
  dsimp only [Sum.elim] at h ⊢
  refine f_be ?_
  refine f_t ?_
  refine k_seq ?_
  refine k_reg ?_
  refine l_assign ?_
  refine k_nil ?_
  refine f_t ?_
  refine k_retc ?_
  apply k_ret [(6000101, 6000101), (6000102, 6000102), (6000103, 6000103), (6000104, 6000104), (6000105, 6000105)] hB h
theorem parse_reader_encoding_s10_ok {u1 : Str} {u2 : Bool} {u3 : (List TNode)} {u4 : (List TOpen_)} {u5 : (List UInt8)} {r : Bool × Str} (h : parse_reader_encoding_s10 u1 u2 u3 u4 u5 = some r) : XSpec Tryz.prog 83 [.ptr 10000101 0] [(10000101, .box 95 [S u1, .sl 10000102 0 u3.length, .sl 10000103 0 u4.length, .pl (.pointer none), .sl 10000104 0 u5.length, B u2]), (10000102, .row 89 8 0 (F c_TNode u3)), (10000103, .row 168 2 0 (F c_TOpen_ u4)), (10000104, .row 5 1 0 (F cU u5))] (B r.1) [(10000101, .box 95 [S r.2, .sl 10000102 0 u3.length, .sl 10000103 0 u4.length, .pl (.pointer none), .sl 10000104 0 u5.length, B u2]), (10000102, .row 89 8 0 (F c_TNode u3)), (10000103, .row 168 2 0 (F c_TOpen_ u4)), (10000104, .row 5 1 0 (F cU u5))] [] := by
  unfold parse_reader_encoding_s10 at h
  refine X_of_run Tryz.hU Tryz.func83 (fun _ _ _ hB => ?_)
  refine k_seq ?_
  refine k_reg ?_
  refine l_assign ?_
  refine k_nil ?_
  refine f_t ?_
  refine k_seq ?_
  refine k_reg ?_
  refine l_move ?_
  refine l_nilCheck ?_
  refine l_fieldAddr ?_
  refine l_load ?_
  refine l_assign ?_
  refine k_nil ?_
  refine f_t ?_
  refine k_seq ?_
  refine k_seq ?_
  refine k_cut (fun q3 => (.normal, ⟨[(0, .ptr 10000101 0), (3, S u1), (17, B q3.1)], [(10000101, .box 95 [S q3.2, .sl 10000102 0 u3.length, .sl 10000103 0 u4.length, .pl (.pointer none), .sl 10000104 0 u5.length, B u2]), (10000102, .row 89 8 0 (F c_TNode u3)), (10000103, .row 168 2 0 (F c_TOpen_ u4)), (10000104, .row 5 1 0 (F cU u5))], []⟩)) h (fun t h => ?_) (fun q3 h => ?_)
  · refine k_reg ?_
    refine l_move ?_
    refine l_callX [(5000101, 10000101), (5000102, 10000102), (5000103, 10000103), (5000104, 10000104)] [10000101, 10000102, 10000103, 10000104] h (fun _ => parse_reader_blanks_s5_ok) (fun v1 _ h => ?_)
    refine l_un ?_
    refine l_move ?_
    refine l_split h (fun _ h => ?_) (fun _ h => ?_)
    · refine l_off ?_
      refine l_off ?_
      refine l_off ?_
      refine l_pick_true ?_
      refine k_nil ?_
      exact k_out [(10000101, 10000101), (10000102, 10000102), (10000103, 10000103), (10000104, 10000104)] hB h
    refine l_on ?_
    refine l_move ?_
    refine l_on ?_
    refine l_callX [(7000101, 10000101), (7000102, 10000102), (7000103, 10000103), (7000104, 10000104)] [10000101, 10000102, 10000103, 10000104] h (fun _ => parse_reader_take_s7_ok) (fun v2 _ h => ?_)
    refine l_on ?_
    refine l_un ?_
    refine l_pick_false ?_
    refine k_nil ?_
    exact k_out [(10000101, 10000101), (10000102, 10000102), (10000103, 10000103), (10000104, 10000104)] hB h
  refine f_t ?_
  refine k_if h (fun _ h => ?_) (fun _ h => ?_)
  · refine k_seq ?_
    refine k_reg ?_
    refine l_move ?_
    refine l_move ?_
    refine l_nilCheck ?_
    refine l_fieldAddr ?_
    refine l_store_box ?_
    refine k_nil ?_
    refine f_t ?_
    refine k_seq ?_
    refine k_reg ?_
    refine l_assign ?_
    refine k_nil ?_
    refine f_t ?_
    refine k_retc ?_
    refine f_tr ?_
    apply k_ret [(10000101, 10000101), (10000102, 10000102), (10000103, 10000103), (10000104, 10000104)] hB h
  refine k_skip ?_
  refine f_t ?_
  refine k_seq ?_
  refine k_reg ?_
  refine l_move ?_
  refine l_callX [(8000101, 10000101), (8000102, 10000102), (8000103, 10000103), (8000104, 10000104)] [10000101, 10000102, 10000103, 10000104] h (fun _ => parse_reader_quoted_s8_ok) (fun v4 _ h => ?_)
  refine l_move ?_
  refine l_extract ?_
  refine l_extract ?_
  refine l_assign ?_
  refine l_assign ?_
  refine k_nil ?_
  refine f_t ?_
  refine k_seq ?_
  refine k_reg ?_
  refine l_move ?_
  refine l_move ?_
  refine l_split h (fun _ h => ?_) (fun _ h => ?_)
  · refine l_on ?_
    refine l_move ?_
    refine l_on ?_
    refine l_call h (fun _ => parse_fold_ok) (fun v5 _ h => ?_)
    refine l_on ?_
    refine l_seq ?_
    refine l_pick_true ?_
    refine l_assign ?_
    refine k_nil ?_
    refine f_t ?_
    refine k_retc ?_
    apply k_ret [(10000101, 10000101), (10000102, 10000102), (10000103, 10000103), (10000104, 10000104)] hB h
  refine l_off ?_
  refine l_off ?_
  refine l_off ?_
  refine l_pick_false ?_
  refine l_assign ?_
  refine k_nil ?_
  refine f_t ?_
  refine k_retc ?_
  apply k_ret [(10000101, 10000101), (10000102, 10000102), (10000103, 10000103), (10000104, 10000104)] hB h
end Go.Proofs.YtipbfnjpfmmkfaaGreatDoor
