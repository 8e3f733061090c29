/-
  WALKS, printed by aw.py: that the program's functions compute the plain ones. Conditions: none.
-/
import Derived.Test.YtipbfnjpfmmkfaaGreatDoorTWalk1
set_option linter.unusedVariables false
set_option linter.unusedSimpArgs false
set_option maxRecDepth 20000
set_option maxHeartbeats 4000000
namespace Go.Proofs.YtipbfnjpfmmkfaaGreatDoor
open Go Go.Abs W G
theorem doc_means_ok {l : (List TNode)} {n : Int} {p : Str} {r : Str × Bool} (h : doc_means l n p = some r) : XSpec Tryz.prog 211 [.vs l.length (F c_TNode l), I n, S p] [] (.tup [S r.1, B r.2]) [] [] := by
  unfold doc_means at h
  refine X_of_run Tryz.hU Tryz.func211 (fun _ _ _ hB => ?_)
  refine k_seq ?_
  refine k_reg ?_
  refine l_assign ?_
  refine l_assign ?_
  refine k_nil ?_
  refine f_t ?_
  refine k_seq ?_
  refine k_seq ?_
  refine k_reg ?_
  refine l_move ?_
  refine l_seq ?_
  refine k_nil ?_
  refine f_t ?_
  refine k_if h (fun _ h => ?_) (fun _ h => ?_)
  · refine k_seq ?_
    refine k_reg ?_
    refine l_assign ?_
    refine l_assign ?_
    refine k_nil ?_
    refine f_t ?_
    refine k_retc ?_
    refine f_tr ?_
    apply k_ret [] hB h
  refine k_skip ?_
  refine f_t ?_
  refine k_seq ?_
  refine k_block ?_
  refine k_loop (fun y1 => ⟨[(0, .vs l.length (F c_TNode l)), (1, I y1), (2, S p)], [], []⟩) (Sum.elim (fun q8 => (.ret, ⟨[(6, S q8), (7, B true)], [], []⟩)) (fun q9 => (.exit 0, ⟨[(2, S p)], [], []⟩))) [] hB h (fun y1 t h => ?_) (fun q h => ?_)
  · unfold doc_means_b1 at h
    refine k_seq ?_
    refine k_seq ?_
    refine k_reg ?_
    refine l_move ?_
    refine l_cmp ?_
    refine k_nil ?_
    refine f_t ?_
    refine k_if h (fun _ h => ?_) (fun _ h => ?_)
    · refine k_skip ?_
      refine f_t ?_
      refine k_seq ?_
      refine k_block ?_
      refine k_seq ?_
      refine k_reg ?_
      refine l_move ?_
      refine l_move ?_
      refine l_at h (fun v2 _ h => ?_)
      refine l_fieldAddr ?_
      refine l_load ?_
      refine l_len ?_
      refine l_move ?_
      refine k_nil ?_
      refine f_t ?_
      refine k_block ?_
      refine k_loop (fun y3 => ⟨[(0, .vs l.length (F c_TNode l)), (1, I y1), (2, S p), (23, .vs v2.Decls.length (F c_TDecl v2.Decls)), (24, I (v2.Decls.length : Int)), (25, I y3)], [], []⟩) (Sum.elim (fun q5 => (.ret, ⟨[(6, S q5), (7, B true)], [], []⟩)) (fun q6 => (.exit 2, ⟨[(0, .vs l.length (F c_TNode l)), (1, I y1), (2, S p)], [], []⟩))) [] hB h (fun y3 t h => ?_) (fun q h => ?_)
      · unfold doc_means_b2 at h
        refine k_seq ?_
        refine k_reg ?_
        refine l_cmp ?_
        refine k_nil ?_
        refine f_t ?_
        refine k_seq ?_
        refine k_if h (fun _ h => ?_) (fun _ h => ?_)
        · refine k_skip ?_
          refine f_t ?_
          refine k_seq ?_
          refine k_block ?_
          refine k_seq ?_
          refine k_reg ?_
          refine l_at h (fun v4 _ h => ?_)
          refine l_load_agg ?_
          refine l_alloc ?_
          refine l_store_box ?_
          refine k_nil ?_
          refine f_t ?_
          refine k_seq ?_
          refine k_reg ?_
          refine l_fieldAddr ?_
          refine l_load ?_
          refine l_move ?_
          refine l_seq ?_
          refine k_nil ?_
          refine f_t ?_
          refine k_if h (fun _ h => ?_) (fun _ h => ?_)
          · refine k_seq ?_
            refine k_reg ?_
            refine l_fieldAddr ?_
            refine l_load ?_
            refine l_assign ?_
            refine l_assign ?_
            refine k_nil ?_
            refine f_t ?_
            refine k_retc ?_
            refine f_br ?_
            refine f_tr ?_
            exact k_brk [] hB h
          refine k_skip ?_
          refine f_b ?_
          refine f_t ?_
          refine k_reg ?_
          refine l_addw ?_
          refine l_move ?_
          refine k_nil ?_
          exact k_next [] hB h
        refine k_exit ?_
        refine f_te ?_
        exact k_brk [] hB h
      rcases q with q5 | q6
      · dsimp only [Sum.elim] at h ⊢
        refine f_br ?_
        refine f_br ?_
        refine f_tr ?_
        exact k_brk [] hB h
      dsimp only [Sum.elim] at h ⊢
      refine f_be ?_
      refine f_b ?_
      refine f_t ?_
      refine k_reg ?_
      refine l_move ?_
      refine l_move ?_
      refine l_at h (fun v7 _ h => ?_)
      refine l_fieldAddr ?_
      refine l_load ?_
      refine l_assign ?_
      refine k_nil ?_
      exact k_next [] hB h
    refine k_exit ?_
    refine f_te ?_
    exact k_brk [] hB h
  rcases q with q8 | q9
  · dsimp only [Sum.elim] at h ⊢
    refine f_br ?_
    refine f_tr ?_
    apply k_ret [] hB h
  dsimp only [Sum.elim] at h ⊢
  refine f_be ?_
  refine f_t ?_
  refine k_seq ?_
  refine k_reg ?_
  refine l_move ?_
  refine l_seq ?_
  refine l_assign ?_
  refine l_assign ?_
  refine k_nil ?_
  refine f_t ?_
  refine k_retc ?_
  apply k_ret [] hB h
theorem doc_named_c1_ok {o : TAttr} {p1 : TAttr} {r : Bool} (h : doc_named_c1 o p1 = some r) : XSpec Tryz.prog 213 [.agg (c_TAttr o), .vptr (c_TAttr p1)] [] (B r) [] [] := by
  unfold doc_named_c1 at h
  refine X_of_run Tryz.hU Tryz.func213 (fun _ _ _ hB => ?_)
  refine k_seq ?_
  refine k_reg ?_
  refine l_box ?_
  refine l_assign ?_
  refine k_nil ?_
  refine f_t ?_
  refine k_seq ?_
  refine k_reg ?_
  refine l_fieldAddr ?_
  refine l_load ?_
  refine l_fieldAddr ?_
  refine l_load ?_
  refine l_seq ?_
  refine l_move ?_
  refine l_split h (fun _ h => ?_) (fun _ h => ?_)
  · refine l_on ?_
    refine l_fieldAddr ?_
    refine l_on ?_
    refine l_load ?_
    refine l_on ?_
    refine l_fieldAddr ?_
    refine l_on ?_
    refine l_load ?_
    refine l_on ?_
    refine l_seq ?_
    refine l_pick_true ?_
    refine l_assign ?_
    refine k_nil ?_
    refine f_t ?_
    refine k_retc ?_
    apply k_ret [] hB h
  refine l_off ?_
  refine l_off ?_
  refine l_off ?_
  refine l_off ?_
  refine l_off ?_
  refine l_pick_false ?_
  refine l_assign ?_
  refine k_nil ?_
  refine f_t ?_
  refine k_retc ?_
  apply k_ret [] hB h
theorem slices_IndexFunc_Attr_ok {s : (List TAttr)} {f : (TAttr → Option Bool)} {fk_f : Nat} {fc_f : List AV} (hf_f : ∀ {x0 : TAttr} {r : Bool}, f x0 = some r → XSpec Tryz.prog fk_f ((.agg (c_TAttr x0)) :: fc_f) [] (B r) [] []) (hc_f : AV.closedL fc_f = true ∧ AV.onlyL [] fc_f = true) {r : Int} (h : slices_IndexFunc_Attr s f = some r) : XSpec Tryz.prog 237 [.vs s.length (F c_TAttr s), .fn (.func fk_f) [] fc_f] [] (I r) [] [] := by
  unfold slices_IndexFunc_Attr at h
  refine X_of_run Tryz.hU Tryz.func237 (fun _ _ _ hB => ?_)
  refine k_seq ?_
  refine k_reg ?_
  refine l_assign ?_
  refine k_nil ?_
  refine f_t ?_
  refine k_seq ?_
  refine k_seq ?_
  refine k_reg ?_
  refine l_move ?_
  refine l_len ?_
  refine l_move ?_
  refine k_nil ?_
  refine f_t ?_
  refine k_block ?_
  refine k_loop (fun y1 => ⟨[(0, .vs s.length (F c_TAttr s)), (1, .fn (.func fk_f) [] fc_f), (7, I (s.length : Int)), (8, I y1)], [], []⟩) (Sum.elim (fun q4 => (.ret, ⟨[(4, I q4)], [], []⟩)) (fun q5 => (.exit 0, ⟨[], [], []⟩))) [] hB h (fun y1 t h => ?_) (fun q h => ?_)
  · unfold slices_IndexFunc_Attr_b1 at h
    refine k_seq ?_
    refine k_reg ?_
    refine l_cmp ?_
    refine k_nil ?_
    refine f_t ?_
    refine k_seq ?_
    refine k_if h (fun _ h => ?_) (fun _ h => ?_)
    · refine k_skip ?_
      refine f_t ?_
      refine k_seq ?_
      refine k_block ?_
      refine k_seq ?_
      refine k_reg ?_
      refine l_move ?_
      refine l_assign ?_
      refine k_nil ?_
      refine f_t ?_
      refine k_seq ?_
      refine k_reg ?_
      refine l_move ?_
      refine l_move ?_
      refine l_move ?_
      refine l_at h (fun v2 _ h => ?_)
      refine l_load_agg ?_
      refine l_callF hc_f h (fun _ => hf_f) (fun v3 _ h => ?_)
      refine k_nil ?_
      refine f_t ?_
      refine k_if h (fun _ h => ?_) (fun _ h => ?_)
      · refine k_seq ?_
        refine k_reg ?_
        refine l_move ?_
        refine l_assign ?_
        refine k_nil ?_
        refine f_t ?_
        refine k_retc ?_
        refine f_br ?_
        refine f_tr ?_
        exact k_brk [] hB h
      refine k_skip ?_
      refine f_b ?_
      refine f_t ?_
      refine k_reg ?_
      refine l_addw ?_
      refine l_move ?_
      refine k_nil ?_
      exact k_next [] hB h
    refine k_exit ?_
    refine f_te ?_
    exact k_brk [] hB h
  rcases q with q4 | q5
  · dsimp only [Sum.elim] at h ⊢
    refine f_br ?_
    refine f_tr ?_
    apply k_ret [] hB h
  dsimp only [Sum.elim] at h ⊢
  refine f_be ?_
  refine f_t ?_
  refine k_seq ?_
  refine k_reg ?_
  refine l_assign ?_
  refine k_nil ?_
  refine f_t ?_
  refine k_retc ?_
  apply k_ret [] hB h
theorem slices_ContainsFunc_Attr_ok {s : (List TAttr)} {f : (TAttr → Option Bool)} {fk_f : Nat} {fc_f : List AV} (hf_f : ∀ {x0 : TAttr} {r : Bool}, f x0 = some r → XSpec Tryz.prog fk_f ((.agg (c_TAttr x0)) :: fc_f) [] (B r) [] []) (hc_f : AV.closedL fc_f = true ∧ AV.onlyL [] fc_f = true) {r : Bool} (h : slices_ContainsFunc_Attr s f = some r) : XSpec Tryz.prog 212 [.vs s.length (F c_TAttr s), .fn (.func fk_f) [] fc_f] [] (B r) [] [] := by
  unfold slices_ContainsFunc_Attr at h
  refine X_of_run Tryz.hU Tryz.func212 (fun _ _ _ hB => ?_)
  refine k_seq ?_
  refine k_reg ?_
  refine l_assign ?_
  refine k_nil ?_
  refine f_t ?_
  refine k_seq ?_
  refine k_reg ?_
  refine l_move ?_
  refine l_move ?_
  refine l_call h (fun _ => slices_IndexFunc_Attr_ok (fun h => hf_f h) hc_f) (fun v1 _ h => ?_)
  refine l_cmp ?_
  refine l_assign ?_
  refine k_nil ?_
  refine f_t ?_
  refine k_retc ?_
  apply k_ret [] hB h
theorem doc_named_ok {l : (List TNode)} {n : Int} {r : Bool} (h : doc_named l n = some r) : XSpec Tryz.prog 178 [.vs l.length (F c_TNode l), I n] [] (B r) [] [] := by
  unfold doc_named at h
  refine X_of_run Tryz.hU Tryz.func178 (fun _ _ _ hB => ?_)
  refine k_seq ?_
  refine k_reg ?_
  refine l_assign ?_
  refine k_nil ?_
  refine f_t ?_
  refine k_seq ?_
  refine k_reg ?_
  refine l_move ?_
  refine l_move ?_
  refine l_at h (fun v1 _ h => ?_)
  refine l_load_agg ?_
  refine l_alloc ?_
  refine l_store_box ?_
  refine k_nil ?_
  refine f_t ?_
  refine k_seq ?_
  refine k_reg ?_
  refine l_move ?_
  refine l_move ?_
  refine l_fieldAddr ?_
  refine l_load ?_
  refine l_call h (fun _ => doc_means_ok) (fun v2 _ h => ?_)
  refine l_move ?_
  refine l_extract ?_
  refine l_extract ?_
  refine l_assign ?_
  refine l_assign ?_
  refine k_nil ?_
  refine f_t ?_
  refine k_seq ?_
  refine k_seq ?_
  refine k_cut (fun q5 => (.normal, ⟨[(0, .vs l.length (F c_TNode l)), (1, I n), (5, .ptr 1005 0), (49, B q5)], [(1005, .box 89 [I v1.Kind, I v1.Parent, S v1.Prefix, S v1.Local, S v1.URI, S v1.Text, .vs v1.Decls.length (F c_TDecl v1.Decls), .vs v1.Attrs.length (F c_TAttr v1.Attrs)])], []⟩)) h (fun t h => ?_) (fun q5 h => ?_)
  · refine k_reg ?_
    refine l_move ?_
    refine l_un ?_
    refine l_move ?_
    refine l_split h (fun _ h => ?_) (fun _ h => ?_)
    · refine l_off ?_
      refine l_off ?_
      refine l_off ?_
      refine l_off ?_
      refine l_pick_true ?_
      refine l_move ?_
      refine l_off ?_
      refine l_off ?_
      refine l_off ?_
      refine l_off ?_
      refine l_pick_true ?_
      refine l_move ?_
      refine l_off ?_
      refine l_off ?_
      refine l_off ?_
      refine l_off ?_
      refine l_pick_true ?_
      refine l_move ?_
      refine l_off ?_
      refine l_off ?_
      refine l_off ?_
      refine l_pick_true ?_
      refine k_nil ?_
      exact k_out [(1005, 1005)] hB h
    refine l_on ?_
    refine l_move ?_
    refine l_on ?_
    refine l_fieldAddr ?_
    refine l_on ?_
    refine l_load ?_
    refine l_on ?_
    refine l_sne ?_
    refine l_pick_false ?_
    refine l_move ?_
    refine l_split h (fun _ h => ?_) (fun _ h => ?_)
    · refine l_off ?_
      refine l_off ?_
      refine l_off ?_
      refine l_off ?_
      refine l_pick_true ?_
      refine l_move ?_
      refine l_off ?_
      refine l_off ?_
      refine l_off ?_
      refine l_off ?_
      refine l_pick_true ?_
      refine l_move ?_
      refine l_off ?_
      refine l_off ?_
      refine l_off ?_
      refine l_pick_true ?_
      refine k_nil ?_
      exact k_out [(1005, 1005)] hB h
    refine l_on ?_
    refine l_fieldAddr ?_
    refine l_on ?_
    refine l_load ?_
    refine l_on ?_
    refine l_call h (fun _ => name_Is_ok) (fun v3 _ h => ?_)
    refine l_on ?_
    refine l_un ?_
    refine l_pick_false ?_
    refine l_move ?_
    refine l_split h (fun _ h => ?_) (fun _ h => ?_)
    · refine l_off ?_
      refine l_off ?_
      refine l_off ?_
      refine l_off ?_
      refine l_pick_true ?_
      refine l_move ?_
      refine l_off ?_
      refine l_off ?_
      refine l_off ?_
      refine l_pick_true ?_
      refine k_nil ?_
      exact k_out [(1005, 1005)] hB h
    refine l_on ?_
    refine l_fieldAddr ?_
    refine l_on ?_
    refine l_load ?_
    refine l_on ?_
    refine l_call h (fun _ => doc_prefix_ok) (fun v4 _ h => ?_)
    refine l_to [(1005, 1005)] ⟨[(0, .vs l.length (F c_TNode l)), (1, I n), (5, .ptr 1005 0), (39, B false), (42, B v4)], [(1005, .box 89 [I v1.Kind, I v1.Parent, S v1.Prefix, S v1.Local, S v1.URI, S v1.Text, .vs v1.Decls.length (F c_TDecl v1.Decls), .vs v1.Attrs.length (F c_TAttr v1.Attrs)])], []⟩ hB ?_
    refine l_on ?_
    refine l_un ?_
    refine l_pick_false ?_
    refine l_move ?_
    refine l_split h (fun _ h => ?_) (fun _ h => ?_)
    · refine l_off ?_
      refine l_off ?_
      refine l_off ?_
      refine l_pick_true ?_
      refine k_nil ?_
      exact k_out [(1005, 1005)] hB h
    refine l_on ?_
    refine l_fieldAddr ?_
    refine l_on ?_
    refine l_load ?_
    refine l_on ?_
    refine l_seq ?_
    refine l_pick_false ?_
    refine k_nil ?_
    exact k_out [(1005, 1005)] hB h
  refine f_t ?_
  refine k_if h (fun _ h => ?_) (fun _ h => ?_)
  · refine k_seq ?_
    refine k_reg ?_
    refine l_assign ?_
    refine k_nil ?_
    refine f_t ?_
    refine k_retc ?_
    refine f_tr ?_
    apply k_ret [] hB h
  refine k_skip ?_
  refine f_t ?_
  refine k_seq ?_
  refine k_seq ?_
  refine k_reg ?_
  refine l_fieldAddr ?_
  refine l_load ?_
  refine l_len ?_
  refine l_move ?_
  refine k_nil ?_
  refine f_t ?_
  refine k_block ?_
  refine k_loop (fun y6 => ⟨[(0, .vs l.length (F c_TNode l)), (1, I n), (5, .ptr 1005 0), (51, .vs v1.Attrs.length (F c_TAttr v1.Attrs)), (52, I (v1.Attrs.length : Int)), (53, I y6)], [(1005, .box 89 [I v1.Kind, I v1.Parent, S v1.Prefix, S v1.Local, S v1.URI, S v1.Text, .vs v1.Decls.length (F c_TDecl v1.Decls), .vs v1.Attrs.length (F c_TAttr v1.Attrs)])], []⟩) (Sum.elim (fun q21 => (.ret, ⟨[(4, B false)], [], []⟩)) (fun q22 => (.exit 0, ⟨[], [], []⟩))) [(1005, 1005)] hB h (fun y6 t h => ?_) (fun q h => ?_)
  · unfold doc_named_b1 at h
    refine k_seq ?_
    refine k_reg ?_
    refine l_cmp ?_
    refine k_nil ?_
    refine f_t ?_
    refine k_seq ?_
    refine k_if h (fun _ h => ?_) (fun _ h => ?_)
    · refine k_skip ?_
      refine f_t ?_
      refine k_seq ?_
      refine k_block ?_
      refine k_seq ?_
      refine k_reg ?_
      refine l_move ?_
      refine l_at h (fun v7 _ h => ?_)
      refine l_load_agg ?_
      refine l_alloc ?_
      refine l_assign ?_
      refine l_store_box ?_
      refine k_nil ?_
      refine f_t ?_
      refine k_seq ?_
      refine k_reg ?_
      refine l_move ?_
      refine l_move ?_
      refine l_fieldAddr ?_
      refine l_load ?_
      refine l_call h (fun _ => doc_means_ok) (fun v8 _ h => ?_)
      refine l_move ?_
      refine l_extract ?_
      refine l_extract ?_
      refine l_assign ?_
      refine l_assign ?_
      refine k_nil ?_
      refine f_t ?_
      refine k_seq ?_
      refine k_seq ?_
      refine k_reg ?_
      refine l_fieldAddr ?_
      refine l_load ?_
      refine l_seq ?_
      refine k_nil ?_
      refine f_t ?_
      refine k_if h (fun _ h => ?_) (fun _ h => ?_)
      · refine k_reg ?_
        refine l_assign ?_
        refine k_nil ?_
        refine f_t ?_
        refine k_seq ?_
        refine k_reg ?_
        refine l_fieldAddr ?_
        refine l_load ?_
        refine l_move ?_
        refine l_subf h (fun v9 _ h => ?_)
        refine l_makeFunc ?_
        refine l_callB h (fun _ => slices_ContainsFunc_Attr_ok (fun h => doc_named_c1_ok h) ⟨rfl, rfl⟩) (fun v10 _ h => ?_)
        refine l_assign ?_
        refine k_nil ?_
        refine f_t ?_
        refine k_seq ?_
        refine k_reg ?_
        refine l_move ?_
        refine l_move ?_
        refine l_split h (fun _ h => ?_) (fun _ h => ?_)
        · refine l_off ?_
          refine l_off ?_
          refine l_pick_true ?_
          refine l_move ?_
          refine l_off ?_
          refine l_off ?_
          refine l_off ?_
          refine l_off ?_
          refine l_pick_true ?_
          refine l_move ?_
          refine l_off ?_
          refine l_off ?_
          refine l_off ?_
          refine l_off ?_
          refine l_pick_true ?_
          refine l_move ?_
          refine l_off ?_
          refine l_off ?_
          refine l_off ?_
          refine l_off ?_
          refine l_pick_true ?_
          refine l_move ?_
          refine l_off ?_
          refine l_off ?_
          refine l_off ?_
          refine l_pick_true ?_
          refine l_move ?_
          refine l_off ?_
          refine l_off ?_
          refine l_off ?_
          refine l_off ?_
          refine l_off ?_
          refine l_off ?_
          refine l_off ?_
          refine l_off ?_
          refine l_pick_true ?_
          refine l_move ?_
          refine l_off ?_
          refine l_off ?_
          refine l_off ?_
          refine l_off ?_
          refine l_pick_true ?_
          refine k_nil ?_
          refine f_t ?_
          refine k_t ?_
          refine k_seq ?_
          refine k_reg ?_
          refine l_assign ?_
          refine k_nil ?_
          refine f_t ?_
          refine k_retc ?_
          refine f_br ?_
          refine f_tr ?_
          exact k_brk [] hB h
        refine l_on ?_
        refine l_move ?_
        refine l_on ?_
        refine l_un ?_
        refine l_pick_false ?_
        refine l_move ?_
        refine l_split h (fun _ h => ?_) (fun _ h => ?_)
        · refine l_off ?_
          refine l_off ?_
          refine l_off ?_
          refine l_off ?_
          refine l_pick_true ?_
          refine l_move ?_
          refine l_off ?_
          refine l_off ?_
          refine l_off ?_
          refine l_off ?_
          refine l_pick_true ?_
          refine l_move ?_
          refine l_off ?_
          refine l_off ?_
          refine l_off ?_
          refine l_off ?_
          refine l_pick_true ?_
          refine l_move ?_
          refine l_off ?_
          refine l_off ?_
          refine l_off ?_
          refine l_pick_true ?_
          refine l_move ?_
          refine l_off ?_
          refine l_off ?_
          refine l_off ?_
          refine l_off ?_
          refine l_off ?_
          refine l_off ?_
          refine l_off ?_
          refine l_off ?_
          refine l_pick_true ?_
          refine l_move ?_
          refine l_off ?_
          refine l_off ?_
          refine l_off ?_
          refine l_off ?_
          refine l_pick_true ?_
          refine k_nil ?_
          refine f_t ?_
          refine k_t ?_
          refine k_seq ?_
          refine k_reg ?_
          refine l_assign ?_
          refine k_nil ?_
          refine f_t ?_
          refine k_retc ?_
          refine f_br ?_
          refine f_tr ?_
          exact k_brk [] hB h
        refine l_on ?_
        refine l_move ?_
        refine l_on ?_
        refine l_fieldAddr ?_
        refine l_on ?_
        refine l_load ?_
        refine l_on ?_
        refine l_sne ?_
        refine l_pick_false ?_
        refine l_move ?_
        refine l_split h (fun _ h => ?_) (fun _ h => ?_)
        · refine l_off ?_
          refine l_off ?_
          refine l_off ?_
          refine l_off ?_
          refine l_pick_true ?_
          refine l_move ?_
          refine l_off ?_
          refine l_off ?_
          refine l_off ?_
          refine l_off ?_
          refine l_pick_true ?_
          refine l_move ?_
          refine l_off ?_
          refine l_off ?_
          refine l_off ?_
          refine l_pick_true ?_
          refine l_move ?_
          refine l_off ?_
          refine l_off ?_
          refine l_off ?_
          refine l_off ?_
          refine l_off ?_
          refine l_off ?_
          refine l_off ?_
          refine l_off ?_
          refine l_pick_true ?_
          refine l_move ?_
          refine l_off ?_
          refine l_off ?_
          refine l_off ?_
          refine l_off ?_
          refine l_pick_true ?_
          refine k_nil ?_
          refine f_t ?_
          refine k_t ?_
          refine k_seq ?_
          refine k_reg ?_
          refine l_assign ?_
          refine k_nil ?_
          refine f_t ?_
          refine k_retc ?_
          refine f_br ?_
          refine f_tr ?_
          exact k_brk [] hB h
        refine l_on ?_
        refine l_fieldAddr ?_
        refine l_on ?_
        refine l_load ?_
        refine l_on ?_
        refine l_call h (fun _ => name_Is_ok) (fun v11 _ h => ?_)
        refine l_on ?_
        refine l_un ?_
        refine l_pick_false ?_
        refine l_move ?_
        refine l_split h (fun _ h => ?_) (fun _ h => ?_)
        · refine l_off ?_
          refine l_off ?_
          refine l_off ?_
          refine l_off ?_
          refine l_pick_true ?_
          refine l_move ?_
          refine l_off ?_
          refine l_off ?_
          refine l_off ?_
          refine l_pick_true ?_
          refine l_move ?_
          refine l_off ?_
          refine l_off ?_
          refine l_off ?_
          refine l_off ?_
          refine l_off ?_
          refine l_off ?_
          refine l_off ?_
          refine l_off ?_
          refine l_pick_true ?_
          refine l_move ?_
          refine l_off ?_
          refine l_off ?_
          refine l_off ?_
          refine l_off ?_
          refine l_pick_true ?_
          refine k_nil ?_
          refine f_t ?_
          refine k_t ?_
          refine k_seq ?_
          refine k_reg ?_
          refine l_assign ?_
          refine k_nil ?_
          refine f_t ?_
          refine k_retc ?_
          refine f_br ?_
          refine f_tr ?_
          exact k_brk [] hB h
        refine l_on ?_
        refine l_fieldAddr ?_
        refine l_on ?_
        refine l_load ?_
        refine l_on ?_
        refine l_call h (fun _ => doc_prefix_ok) (fun v12 _ h => ?_)
        refine l_to [(1005, 1005), (1009, 1009)] ⟨[(0, .vs l.length (F c_TNode l)), (1, I n), (5, .ptr 1005 0), (9, .ptr 1009 0), (51, .vs v1.Attrs.length (F c_TAttr v1.Attrs)), (52, I (v1.Attrs.length : Int)), (53, I y6), (77, B v8.2), (78, B (!v8.2)), (81, S []), (82, .ptr 1009 2), (83, S v7.URI), (84, B (!([] == v7.URI))), (87, .ptr 1009 1), (88, S v7.Local), (89, B v11), (90, B (!v11)), (92, B false), (93, .ptr 1009 0), (94, S v7.Prefix), (95, B v12)], [(1005, .box 89 [I v1.Kind, I v1.Parent, S v1.Prefix, S v1.Local, S v1.URI, S v1.Text, .vs v1.Decls.length (F c_TDecl v1.Decls), .vs v1.Attrs.length (F c_TAttr v1.Attrs)]), (1009, .box 120 [S v7.Prefix, S v7.Local, S v7.URI, S v7.Value])], []⟩ hB ?_
        refine l_on ?_
        refine l_un ?_
        refine l_pick_false ?_
        refine l_move ?_
        refine l_split h (fun _ h => ?_) (fun _ h => ?_)
        · refine l_off ?_
          refine l_off ?_
          refine l_off ?_
          refine l_pick_true ?_
          refine l_move ?_
          refine l_off ?_
          refine l_off ?_
          refine l_off ?_
          refine l_off ?_
          refine l_off ?_
          refine l_off ?_
          refine l_off ?_
          refine l_off ?_
          refine l_pick_true ?_
          refine l_move ?_
          refine l_off ?_
          refine l_off ?_
          refine l_off ?_
          refine l_off ?_
          refine l_pick_true ?_
          refine k_nil ?_
          refine f_t ?_
          refine k_t ?_
          refine k_seq ?_
          refine k_reg ?_
          refine l_assign ?_
          refine k_nil ?_
          refine f_t ?_
          refine k_retc ?_
          refine f_br ?_
          refine f_tr ?_
          exact k_brk [] hB h
        refine l_on ?_
        refine l_fieldAddr ?_
        refine l_on ?_
        refine l_load ?_
        refine l_on ?_
        refine l_seq ?_
        refine l_pick_false ?_
        refine l_move ?_
        refine l_split h (fun _ h => ?_) (fun _ h => ?_)
        · refine l_off ?_
          refine l_off ?_
          refine l_off ?_
          refine l_off ?_
          refine l_off ?_
          refine l_off ?_
          refine l_off ?_
          refine l_off ?_
          refine l_pick_true ?_
          refine l_move ?_
          refine l_off ?_
          refine l_off ?_
          refine l_off ?_
          refine l_off ?_
          refine l_pick_true ?_
          refine k_nil ?_
          refine f_t ?_
          refine k_t ?_
          refine k_seq ?_
          refine k_reg ?_
          refine l_assign ?_
          refine k_nil ?_
          refine f_t ?_
          refine k_retc ?_
          refine f_br ?_
          refine f_tr ?_
          exact k_brk [] hB h
        refine l_on ?_
        refine l_fieldAddr ?_
        refine l_on ?_
        refine l_load ?_
        refine l_on ?_
        refine l_seq ?_
        refine l_on ?_
        refine l_move ?_
        refine l_split h (fun _ h => ?_) (fun _ h => ?_)
        · refine l_on ?_
          refine l_fieldAddr ?_
          refine l_on ?_
          refine l_load ?_
          refine l_on ?_
          refine l_seq ?_
          refine l_on ?_
          refine l_pick_true ?_
          refine l_pick_false ?_
          refine l_move ?_
          refine l_split h (fun _ h => ?_) (fun _ h => ?_)
          · refine l_off ?_
            refine l_off ?_
            refine l_off ?_
            refine l_off ?_
            refine l_pick_true ?_
            refine k_nil ?_
            refine f_t ?_
            refine k_t ?_
            refine k_seq ?_
            refine k_reg ?_
            refine l_assign ?_
            refine k_nil ?_
            refine f_t ?_
            refine k_retc ?_
            refine f_br ?_
            refine f_tr ?_
            exact k_brk [] hB h
          refine l_on ?_
          refine l_fieldAddr ?_
          refine l_on ?_
          refine l_load ?_
          refine l_on ?_
          refine l_call h (fun _ => doc_text_ok) (fun v13 _ h => ?_)
          refine l_on ?_
          refine l_un ?_
          refine l_pick_false ?_
          refine k_nil ?_
          refine f_t ?_
          refine k_if h (fun _ h => ?_) (fun _ h => ?_)
          · refine k_seq ?_
            refine k_reg ?_
            refine l_assign ?_
            refine k_nil ?_
            refine f_t ?_
            refine k_retc ?_
            refine f_br ?_
            refine f_tr ?_
            exact k_brk [] hB h
          refine k_skip ?_
          refine f_b ?_
          refine f_t ?_
          refine k_reg ?_
          refine l_addw ?_
          refine l_move ?_
          refine k_nil ?_
          exact k_next [(1005, 1005)] hB h
        refine l_off ?_
        refine l_off ?_
        refine l_off ?_
        refine l_on ?_
        refine l_pick_false ?_
        refine l_pick_false ?_
        refine l_move ?_
        refine l_on ?_
        refine l_fieldAddr ?_
        refine l_on ?_
        refine l_load ?_
        refine l_on ?_
        refine l_call h (fun _ => doc_text_ok) (fun v14 _ h => ?_)
        refine l_on ?_
        refine l_un ?_
        refine l_pick_false ?_
        refine k_nil ?_
        refine f_t ?_
        refine k_if h (fun _ h => ?_) (fun _ h => ?_)
        · refine k_seq ?_
          refine k_reg ?_
          refine l_assign ?_
          refine k_nil ?_
          refine f_t ?_
          refine k_retc ?_
          refine f_br ?_
          refine f_tr ?_
          exact k_brk [] hB h
        refine k_skip ?_
        refine f_b ?_
        refine f_t ?_
        refine k_reg ?_
        refine l_addw ?_
        refine l_move ?_
        refine k_nil ?_
        exact k_next [(1005, 1005)] hB h
      refine k_skip ?_
      refine f_t ?_
      refine k_seq ?_
      refine k_reg ?_
      refine l_fieldAddr ?_
      refine l_load ?_
      refine l_move ?_
      refine l_subf h (fun v15 _ h => ?_)
      refine l_makeFunc ?_
      refine l_callB h (fun _ => slices_ContainsFunc_Attr_ok (fun h => doc_named_c1_ok h) ⟨rfl, rfl⟩) (fun v16 _ h => ?_)
      refine l_assign ?_
      refine k_nil ?_
      refine f_t ?_
      refine k_seq ?_
      refine k_reg ?_
      refine l_move ?_
      refine l_move ?_
      refine l_split h (fun _ h => ?_) (fun _ h => ?_)
      · refine l_off ?_
        refine l_off ?_
        refine l_pick_true ?_
        refine l_move ?_
        refine l_off ?_
        refine l_off ?_
        refine l_off ?_
        refine l_off ?_
        refine l_pick_true ?_
        refine l_move ?_
        refine l_off ?_
        refine l_off ?_
        refine l_off ?_
        refine l_off ?_
        refine l_pick_true ?_
        refine l_move ?_
        refine l_off ?_
        refine l_off ?_
        refine l_off ?_
        refine l_off ?_
        refine l_pick_true ?_
        refine l_move ?_
        refine l_off ?_
        refine l_off ?_
        refine l_off ?_
        refine l_pick_true ?_
        refine l_move ?_
        refine l_off ?_
        refine l_off ?_
        refine l_off ?_
        refine l_off ?_
        refine l_off ?_
        refine l_off ?_
        refine l_off ?_
        refine l_off ?_
        refine l_pick_true ?_
        refine l_move ?_
        refine l_off ?_
        refine l_off ?_
        refine l_off ?_
        refine l_off ?_
        refine l_pick_true ?_
        refine k_nil ?_
        refine f_t ?_
        refine k_t ?_
        refine k_seq ?_
        refine k_reg ?_
        refine l_assign ?_
        refine k_nil ?_
        refine f_t ?_
        refine k_retc ?_
        refine f_br ?_
        refine f_tr ?_
        exact k_brk [] hB h
      refine l_on ?_
      refine l_move ?_
      refine l_on ?_
      refine l_un ?_
      refine l_pick_false ?_
      refine l_move ?_
      refine l_split h (fun _ h => ?_) (fun _ h => ?_)
      · refine l_off ?_
        refine l_off ?_
        refine l_off ?_
        refine l_off ?_
        refine l_pick_true ?_
        refine l_move ?_
        refine l_off ?_
        refine l_off ?_
        refine l_off ?_
        refine l_off ?_
        refine l_pick_true ?_
        refine l_move ?_
        refine l_off ?_
        refine l_off ?_
        refine l_off ?_
        refine l_off ?_
        refine l_pick_true ?_
        refine l_move ?_
        refine l_off ?_
        refine l_off ?_
        refine l_off ?_
        refine l_pick_true ?_
        refine l_move ?_
        refine l_off ?_
        refine l_off ?_
        refine l_off ?_
        refine l_off ?_
        refine l_off ?_
        refine l_off ?_
        refine l_off ?_
        refine l_off ?_
        refine l_pick_true ?_
        refine l_move ?_
        refine l_off ?_
        refine l_off ?_
        refine l_off ?_
        refine l_off ?_
        refine l_pick_true ?_
        refine k_nil ?_
        refine f_t ?_
        refine k_t ?_
        refine k_seq ?_
        refine k_reg ?_
        refine l_assign ?_
        refine k_nil ?_
        refine f_t ?_
        refine k_retc ?_
        refine f_br ?_
        refine f_tr ?_
        exact k_brk [] hB h
      refine l_on ?_
      refine l_move ?_
      refine l_on ?_
      refine l_fieldAddr ?_
      refine l_on ?_
      refine l_load ?_
      refine l_on ?_
      refine l_sne ?_
      refine l_pick_false ?_
      refine l_move ?_
      refine l_split h (fun _ h => ?_) (fun _ h => ?_)
      · refine l_off ?_
        refine l_off ?_
        refine l_off ?_
        refine l_off ?_
        refine l_pick_true ?_
        refine l_move ?_
        refine l_off ?_
        refine l_off ?_
        refine l_off ?_
        refine l_off ?_
        refine l_pick_true ?_
        refine l_move ?_
        refine l_off ?_
        refine l_off ?_
        refine l_off ?_
        refine l_pick_true ?_
        refine l_move ?_
        refine l_off ?_
        refine l_off ?_
        refine l_off ?_
        refine l_off ?_
        refine l_off ?_
        refine l_off ?_
        refine l_off ?_
        refine l_off ?_
        refine l_pick_true ?_
        refine l_move ?_
        refine l_off ?_
        refine l_off ?_
        refine l_off ?_
        refine l_off ?_
        refine l_pick_true ?_
        refine k_nil ?_
        refine f_t ?_
        refine k_t ?_
        refine k_seq ?_
        refine k_reg ?_
        refine l_assign ?_
        refine k_nil ?_
        refine f_t ?_
        refine k_retc ?_
        refine f_br ?_
        refine f_tr ?_
        exact k_brk [] hB h
      refine l_on ?_
      refine l_fieldAddr ?_
      refine l_on ?_
      refine l_load ?_
      refine l_on ?_
      refine l_call h (fun _ => name_Is_ok) (fun v17 _ h => ?_)
      refine l_on ?_
      refine l_un ?_
      refine l_pick_false ?_
      refine l_move ?_
      refine l_split h (fun _ h => ?_) (fun _ h => ?_)
      · refine l_off ?_
        refine l_off ?_
        refine l_off ?_
        refine l_off ?_
        refine l_pick_true ?_
        refine l_move ?_
        refine l_off ?_
        refine l_off ?_
        refine l_off ?_
        refine l_pick_true ?_
        refine l_move ?_
        refine l_off ?_
        refine l_off ?_
        refine l_off ?_
        refine l_off ?_
        refine l_off ?_
        refine l_off ?_
        refine l_off ?_
        refine l_off ?_
        refine l_pick_true ?_
        refine l_move ?_
        refine l_off ?_
        refine l_off ?_
        refine l_off ?_
        refine l_off ?_
        refine l_pick_true ?_
        refine k_nil ?_
        refine f_t ?_
        refine k_t ?_
        refine k_seq ?_
        refine k_reg ?_
        refine l_assign ?_
        refine k_nil ?_
        refine f_t ?_
        refine k_retc ?_
        refine f_br ?_
        refine f_tr ?_
        exact k_brk [] hB h
      refine l_on ?_
      refine l_fieldAddr ?_
      refine l_on ?_
      refine l_load ?_
      refine l_on ?_
      refine l_call h (fun _ => doc_prefix_ok) (fun v18 _ h => ?_)
      refine l_to [(1005, 1005), (1009, 1009)] ⟨[(0, .vs l.length (F c_TNode l)), (1, I n), (5, .ptr 1005 0), (9, .ptr 1009 0), (51, .vs v1.Attrs.length (F c_TAttr v1.Attrs)), (52, I (v1.Attrs.length : Int)), (53, I y6), (77, B v8.2), (78, B (!v8.2)), (81, S v8.1), (82, .ptr 1009 2), (83, S v7.URI), (84, B (!(v8.1 == v7.URI))), (87, .ptr 1009 1), (88, S v7.Local), (89, B v17), (90, B (!v17)), (92, B false), (93, .ptr 1009 0), (94, S v7.Prefix), (95, B v18)], [(1005, .box 89 [I v1.Kind, I v1.Parent, S v1.Prefix, S v1.Local, S v1.URI, S v1.Text, .vs v1.Decls.length (F c_TDecl v1.Decls), .vs v1.Attrs.length (F c_TAttr v1.Attrs)]), (1009, .box 120 [S v7.Prefix, S v7.Local, S v7.URI, S v7.Value])], []⟩ hB ?_
      refine l_on ?_
      refine l_un ?_
      refine l_pick_false ?_
      refine l_move ?_
      refine l_split h (fun _ h => ?_) (fun _ h => ?_)
      · refine l_off ?_
        refine l_off ?_
        refine l_off ?_
        refine l_pick_true ?_
        refine l_move ?_
        refine l_off ?_
        refine l_off ?_
        refine l_off ?_
        refine l_off ?_
        refine l_off ?_
        refine l_off ?_
        refine l_off ?_
        refine l_off ?_
        refine l_pick_true ?_
        refine l_move ?_
        refine l_off ?_
        refine l_off ?_
        refine l_off ?_
        refine l_off ?_
        refine l_pick_true ?_
        refine k_nil ?_
        refine f_t ?_
        refine k_t ?_
        refine k_seq ?_
        refine k_reg ?_
        refine l_assign ?_
        refine k_nil ?_
        refine f_t ?_
        refine k_retc ?_
        refine f_br ?_
        refine f_tr ?_
        exact k_brk [] hB h
      refine l_on ?_
      refine l_fieldAddr ?_
      refine l_on ?_
      refine l_load ?_
      refine l_on ?_
      refine l_seq ?_
      refine l_pick_false ?_
      refine l_move ?_
      refine l_split h (fun _ h => ?_) (fun _ h => ?_)
      · refine l_off ?_
        refine l_off ?_
        refine l_off ?_
        refine l_off ?_
        refine l_off ?_
        refine l_off ?_
        refine l_off ?_
        refine l_off ?_
        refine l_pick_true ?_
        refine l_move ?_
        refine l_off ?_
        refine l_off ?_
        refine l_off ?_
        refine l_off ?_
        refine l_pick_true ?_
        refine k_nil ?_
        refine f_t ?_
        refine k_t ?_
        refine k_seq ?_
        refine k_reg ?_
        refine l_assign ?_
        refine k_nil ?_
        refine f_t ?_
        refine k_retc ?_
        refine f_br ?_
        refine f_tr ?_
        exact k_brk [] hB h
      refine l_on ?_
      refine l_fieldAddr ?_
      refine l_on ?_
      refine l_load ?_
      refine l_on ?_
      refine l_seq ?_
      refine l_on ?_
      refine l_move ?_
      refine l_split h (fun _ h => ?_) (fun _ h => ?_)
      · refine l_on ?_
        refine l_fieldAddr ?_
        refine l_on ?_
        refine l_load ?_
        refine l_on ?_
        refine l_seq ?_
        refine l_on ?_
        refine l_pick_true ?_
        refine l_pick_false ?_
        refine l_move ?_
        refine l_split h (fun _ h => ?_) (fun _ h => ?_)
        · refine l_off ?_
          refine l_off ?_
          refine l_off ?_
          refine l_off ?_
          refine l_pick_true ?_
          refine k_nil ?_
          refine f_t ?_
          refine k_t ?_
          refine k_seq ?_
          refine k_reg ?_
          refine l_assign ?_
          refine k_nil ?_
          refine f_t ?_
          refine k_retc ?_
          refine f_br ?_
          refine f_tr ?_
          exact k_brk [] hB h
        refine l_on ?_
        refine l_fieldAddr ?_
        refine l_on ?_
        refine l_load ?_
        refine l_on ?_
        refine l_call h (fun _ => doc_text_ok) (fun v19 _ h => ?_)
        refine l_on ?_
        refine l_un ?_
        refine l_pick_false ?_
        refine k_nil ?_
        refine f_t ?_
        refine k_if h (fun _ h => ?_) (fun _ h => ?_)
        · refine k_seq ?_
          refine k_reg ?_
          refine l_assign ?_
          refine k_nil ?_
          refine f_t ?_
          refine k_retc ?_
          refine f_br ?_
          refine f_tr ?_
          exact k_brk [] hB h
        refine k_skip ?_
        refine f_b ?_
        refine f_t ?_
        refine k_reg ?_
        refine l_addw ?_
        refine l_move ?_
        refine k_nil ?_
        exact k_next [(1005, 1005)] hB h
      refine l_off ?_
      refine l_off ?_
      refine l_off ?_
      refine l_on ?_
      refine l_pick_false ?_
      refine l_pick_false ?_
      refine l_move ?_
      refine l_on ?_
      refine l_fieldAddr ?_
      refine l_on ?_
      refine l_load ?_
      refine l_on ?_
      refine l_call h (fun _ => doc_text_ok) (fun v20 _ h => ?_)
      refine l_on ?_
      refine l_un ?_
      refine l_pick_false ?_
      refine k_nil ?_
      refine f_t ?_
      refine k_if h (fun _ h => ?_) (fun _ h => ?_)
      · refine k_seq ?_
        refine k_reg ?_
        refine l_assign ?_
        refine k_nil ?_
        refine f_t ?_
        refine k_retc ?_
        refine f_br ?_
        refine f_tr ?_
        exact k_brk [] hB h
      refine k_skip ?_
      refine f_b ?_
      refine f_t ?_
      refine k_reg ?_
      refine l_addw ?_
      refine l_move ?_
      refine k_nil ?_
      exact k_next [(1005, 1005)] hB h
    refine k_exit ?_
    refine f_te ?_
    exact k_brk [] hB h
  rcases q with q21 | q22
  · dsimp only [Sum.elim] at h ⊢
    refine f_br ?_
    refine f_tr ?_
    apply k_ret [] hB h
  dsimp only [Sum.elim] at h ⊢
  refine f_be ?_
  refine f_t ?_
  refine k_seq ?_
  refine k_reg ?_
  refine l_assign ?_
  refine k_nil ?_
  refine f_t ?_
  refine k_retc ?_
  apply k_ret [] hB h
theorem strings_Contains_ok {s : Str} {substr : Str} {r : Bool} (h : strings_Contains s substr = some r) : XSpec Tryz.prog 145 [S s, S substr] [] (B r) [] [] := by
  unfold strings_Contains at h
  refine X_of_run Tryz.hU Tryz.func145 (fun _ _ _ hB => ?_)
  refine k_seq ?_
  refine k_reg ?_
  refine l_assign ?_
  refine k_nil ?_
  refine f_t ?_
  refine k_seq ?_
  refine k_reg ?_
  refine l_move ?_
  refine l_move ?_
  refine l_call h (fun _ => strings_Index_ok) (fun v1 _ h => ?_)
  refine l_cmp ?_
  refine l_assign ?_
  refine k_nil ?_
  refine f_t ?_
  refine k_retc ?_
  apply k_ret [] hB h
theorem stringslite_HasSuffix_ok {s : Str} {suffix : Str} {r : Bool} (h : stringslite_HasSuffix s suffix = some r) : XSpec Tryz.prog 214 [S s, S suffix] [] (B r) [] [] := by
  unfold stringslite_HasSuffix at h
  refine X_of_run Tryz.hU Tryz.func214 (fun _ _ _ hB => ?_)
  refine k_seq ?_
  refine k_reg ?_
  refine l_assign ?_
  refine k_nil ?_
  refine f_t ?_
  refine k_seq ?_
  refine k_reg ?_
  refine l_move ?_
  refine l_lens ?_
  refine l_move ?_
  refine l_lens ?_
  refine l_cmp ?_
  refine l_move ?_
  refine l_split h (fun _ h => ?_) (fun _ h => ?_)
  · refine l_on ?_
    refine l_move ?_
    refine l_on ?_
    refine l_move ?_
    refine l_on ?_
    refine l_lens ?_
    refine l_on ?_
    refine l_move ?_
    refine l_on ?_
    refine l_lens ?_
    refine l_on ?_
    refine l_subw ?_
    refine l_on ?_
    refine l_subs h (fun v1 _ h => ?_)
    refine l_on ?_
    refine l_move ?_
    refine l_on ?_
    refine l_seq ?_
    refine l_pick_true ?_
    refine l_assign ?_
    refine k_nil ?_
    refine f_t ?_
    refine k_retc ?_
    apply k_ret [] hB h
  refine l_off ?_
  refine l_off ?_
  refine l_off ?_
  refine l_off ?_
  refine l_off ?_
  refine l_off ?_
  refine l_off ?_
  refine l_off ?_
  refine l_off ?_
  refine l_pick_false ?_
  refine l_assign ?_
  refine k_nil ?_
  refine f_t ?_
  refine k_retc ?_
  apply k_ret [] hB h
theorem strings_HasSuffix_ok {s : Str} {suffix : Str} {r : Bool} (h : strings_HasSuffix s suffix = some r) : XSpec Tryz.prog 180 [S s, S suffix] [] (B r) [] [] := by
  unfold strings_HasSuffix at h
  refine X_of_run Tryz.hU Tryz.func180 (fun _ _ _ hB => ?_)
  refine k_seq ?_
  refine k_reg ?_
  refine l_assign ?_
  refine k_nil ?_
  refine f_t ?_
  refine k_seq ?_
  refine k_reg ?_
  refine l_move ?_
  refine l_move ?_
  refine l_call h (fun _ => stringslite_HasSuffix_ok) (fun v1 _ h => ?_)
  refine l_assign ?_
  refine k_nil ?_
  refine f_t ?_
  refine k_retc ?_
  apply k_ret [] hB h
theorem doc_formed_ok {l : (List TNode)} {n : Int} {last : Int} {r : Bool} (h : doc_formed l n last = some r) : XSpec Tryz.prog 137 [.vs l.length (F c_TNode l), I n, I last] [] (B r) [] [] := by
  unfold doc_formed at h
  refine X_of_run Tryz.hU Tryz.func137 (fun _ _ _ hB => ?_)
  refine k_seq ?_
  refine k_reg ?_
  refine l_assign ?_
  refine k_nil ?_
  refine f_t ?_
  refine k_seq ?_
  refine k_reg ?_
  refine l_move ?_
  refine l_move ?_
  refine l_at h (fun v1 _ h => ?_)
  refine l_load_agg ?_
  refine l_alloc ?_
  refine l_store_box ?_
  refine k_nil ?_
  refine f_t ?_
  refine k_seq ?_
  refine k_seq ?_
  refine k_reg ?_
  refine l_fieldAddr ?_
  refine l_load ?_
  refine k_nil ?_
  refine f_t ?_
  refine k_block ?_
  refine k_seq ?_
  refine k_reg ?_
  refine l_cmp ?_
  refine l_assign ?_
  refine k_nil ?_
  refine f_t ?_
  refine k_if h (fun _ h => ?_) (fun _ h => ?_)
  · refine k_seq ?_
    refine k_reg ?_
    refine l_fieldAddr ?_
    refine l_load ?_
    refine l_seq ?_
    refine l_move ?_
    refine l_split h (fun _ h => ?_) (fun _ h => ?_)
    · refine l_on ?_
      refine l_fieldAddr ?_
      refine l_on ?_
      refine l_load ?_
      refine l_on ?_
      refine l_call h (fun _ => doc_declared_ok) (fun v2 _ h => ?_)
      refine l_pick_true ?_
      refine l_move ?_
      refine l_split h (fun _ h => ?_) (fun _ h => ?_)
      · refine l_on ?_
        refine l_move ?_
        refine l_on ?_
        refine l_move ?_
        refine l_on ?_
        refine l_call h (fun _ => doc_named_ok) (fun v3 _ h => ?_)
        refine l_to [] ⟨[(25, B true), (28, B v3)], [], []⟩ hB ?_
        refine l_pick_true ?_
        refine l_assign ?_
        refine k_nil ?_
        refine f_t ?_
        refine k_retc ?_
        refine f_br ?_
        refine f_tr ?_
        apply k_ret [] hB h
      refine l_off ?_
      refine l_off ?_
      refine l_off ?_
      refine l_pick_false ?_
      refine l_assign ?_
      refine k_nil ?_
      refine f_t ?_
      refine k_retc ?_
      refine f_br ?_
      refine f_tr ?_
      apply k_ret [] hB h
    refine l_off ?_
    refine l_off ?_
    refine l_off ?_
    refine l_pick_false ?_
    refine l_move ?_
    refine l_off ?_
    refine l_off ?_
    refine l_off ?_
    refine l_pick_false ?_
    refine l_assign ?_
    refine k_nil ?_
    refine f_t ?_
    refine k_retc ?_
    refine f_br ?_
    refine f_tr ?_
    apply k_ret [] hB h
  refine k_seq ?_
  refine k_reg ?_
  refine l_cmp ?_
  refine l_assign ?_
  refine k_nil ?_
  refine f_t ?_
  refine k_if h (fun _ h => ?_) (fun _ h => ?_)
  · refine k_seq ?_
    refine k_reg ?_
    refine l_load_agg ?_
    refine l_call h (fun _ => doc_bare_ok) (fun v4 _ h => ?_)
    refine l_move ?_
    refine l_split h (fun _ h => ?_) (fun _ h => ?_)
    · refine l_on ?_
      refine l_fieldAddr ?_
      refine l_on ?_
      refine l_load ?_
      refine l_on ?_
      refine l_seq ?_
      refine l_pick_true ?_
      refine l_move ?_
      refine l_split h (fun _ h => ?_) (fun _ h => ?_)
      · refine l_on ?_
        refine l_fieldAddr ?_
        refine l_on ?_
        refine l_load ?_
        refine l_on ?_
        refine l_sne ?_
        refine l_pick_true ?_
        refine l_move ?_
        refine l_split h (fun _ h => ?_) (fun _ h => ?_)
        · refine l_on ?_
          refine l_fieldAddr ?_
          refine l_on ?_
          refine l_load ?_
          refine l_on ?_
          refine l_call h (fun _ => doc_text_ok) (fun v5 _ h => ?_)
          refine l_to [] ⟨[(0, .vs l.length (F c_TNode l)), (2, I last), (44, B true), (47, B v5)], [], []⟩ hB ?_
          refine l_pick_true ?_
          refine l_move ?_
          refine l_split h (fun _ h => ?_) (fun _ h => ?_)
          · refine l_on ?_
            refine l_move ?_
            refine l_on ?_
            refine l_cmp ?_
            refine l_on ?_
            refine l_move ?_
            refine l_split h (fun _ h => ?_) (fun _ h => ?_)
            · refine l_off ?_
              refine l_off ?_
              refine l_off ?_
              refine l_off ?_
              refine l_off ?_
              refine l_off ?_
              refine l_on ?_
              refine l_pick_true ?_
              refine l_pick_true ?_
              refine l_assign ?_
              refine k_nil ?_
              refine f_t ?_
              refine k_retc ?_
              refine f_br ?_
              refine f_tr ?_
              apply k_ret [] hB h
            refine l_on ?_
            refine l_move ?_
            refine l_on ?_
            refine l_move ?_
            refine l_on ?_
            refine l_at h (fun v6 _ h => ?_)
            refine l_on ?_
            refine l_fieldAddr ?_
            refine l_on ?_
            refine l_load ?_
            refine l_on ?_
            refine l_cmp ?_
            refine l_on ?_
            refine l_pick_false ?_
            refine l_pick_true ?_
            refine l_assign ?_
            refine k_nil ?_
            refine f_t ?_
            refine k_retc ?_
            refine f_br ?_
            refine f_tr ?_
            apply k_ret [] hB h
          refine l_off ?_
          refine l_off ?_
          refine l_off ?_
          refine l_off ?_
          refine l_off ?_
          refine l_off ?_
          refine l_off ?_
          refine l_off ?_
          refine l_off ?_
          refine l_off ?_
          refine l_pick_false ?_
          refine l_assign ?_
          refine k_nil ?_
          refine f_t ?_
          refine k_retc ?_
          refine f_br ?_
          refine f_tr ?_
          apply k_ret [] hB h
        refine l_off ?_
        refine l_off ?_
        refine l_off ?_
        refine l_pick_false ?_
        refine l_move ?_
        refine l_off ?_
        refine l_off ?_
        refine l_off ?_
        refine l_off ?_
        refine l_off ?_
        refine l_off ?_
        refine l_off ?_
        refine l_off ?_
        refine l_off ?_
        refine l_off ?_
        refine l_pick_false ?_
        refine l_assign ?_
        refine k_nil ?_
        refine f_t ?_
        refine k_retc ?_
        refine f_br ?_
        refine f_tr ?_
        apply k_ret [] hB h
      refine l_off ?_
      refine l_off ?_
      refine l_off ?_
      refine l_pick_false ?_
      refine l_move ?_
      refine l_off ?_
      refine l_off ?_
      refine l_off ?_
      refine l_pick_false ?_
      refine l_move ?_
      refine l_off ?_
      refine l_off ?_
      refine l_off ?_
      refine l_off ?_
      refine l_off ?_
      refine l_off ?_
      refine l_off ?_
      refine l_off ?_
      refine l_off ?_
      refine l_off ?_
      refine l_pick_false ?_
      refine l_assign ?_
      refine k_nil ?_
      refine f_t ?_
      refine k_retc ?_
      refine f_br ?_
      refine f_tr ?_
      apply k_ret [] hB h
    refine l_off ?_
    refine l_off ?_
    refine l_off ?_
    refine l_pick_false ?_
    refine l_move ?_
    refine l_off ?_
    refine l_off ?_
    refine l_off ?_
    refine l_pick_false ?_
    refine l_move ?_
    refine l_off ?_
    refine l_off ?_
    refine l_off ?_
    refine l_pick_false ?_
    refine l_move ?_
    refine l_off ?_
    refine l_off ?_
    refine l_off ?_
    refine l_off ?_
    refine l_off ?_
    refine l_off ?_
    refine l_off ?_
    refine l_off ?_
    refine l_off ?_
    refine l_off ?_
    refine l_pick_false ?_
    refine l_assign ?_
    refine k_nil ?_
    refine f_t ?_
    refine k_retc ?_
    refine f_br ?_
    refine f_tr ?_
    apply k_ret [] hB h
  refine k_seq ?_
  refine k_reg ?_
  refine l_cmp ?_
  refine l_assign ?_
  refine k_nil ?_
  refine f_t ?_
  refine k_if h (fun _ h => ?_) (fun _ h => ?_)
  · refine k_seq ?_
    refine k_reg ?_
    refine l_load_agg ?_
    refine l_call h (fun _ => doc_bare_ok) (fun v7 _ h => ?_)
    refine l_move ?_
    refine l_split h (fun _ h => ?_) (fun _ h => ?_)
    · refine l_on ?_
      refine l_fieldAddr ?_
      refine l_on ?_
      refine l_load ?_
      refine l_on ?_
      refine l_seq ?_
      refine l_pick_true ?_
      refine l_move ?_
      refine l_split h (fun _ h => ?_) (fun _ h => ?_)
      · refine l_on ?_
        refine l_fieldAddr ?_
        refine l_on ?_
        refine l_load ?_
        refine l_on ?_
        refine l_call h (fun _ => doc_text_ok) (fun v8 _ h => ?_)
        refine l_to [(1007, 1007)] ⟨[(7, .ptr 1007 0), (70, B true), (73, B v8)], [(1007, .box 89 [I v1.Kind, I v1.Parent, S v1.Prefix, S v1.Local, S v1.URI, S v1.Text, .vs v1.Decls.length (F c_TDecl v1.Decls), .vs v1.Attrs.length (F c_TAttr v1.Attrs)])], []⟩ hB ?_
        refine l_pick_true ?_
        refine l_move ?_
        refine l_split h (fun _ h => ?_) (fun _ h => ?_)
        · refine l_on ?_
          refine l_fieldAddr ?_
          refine l_on ?_
          refine l_load ?_
          refine l_on ?_
          refine l_call h (fun _ => strings_Contains_ok) (fun v9 _ h => ?_)
          refine l_on ?_
          refine l_un ?_
          refine l_pick_true ?_
          refine l_move ?_
          refine l_split h (fun _ h => ?_) (fun _ h => ?_)
          · refine l_on ?_
            refine l_fieldAddr ?_
            refine l_on ?_
            refine l_load ?_
            refine l_on ?_
            refine l_call h (fun _ => strings_HasSuffix_ok) (fun v10 _ h => ?_)
            refine l_to [] ⟨[(81, B true), (84, B v10)], [], []⟩ hB ?_
            refine l_on ?_
            refine l_un ?_
            refine l_pick_true ?_
            refine l_assign ?_
            refine k_nil ?_
            refine f_t ?_
            refine k_retc ?_
            refine f_br ?_
            refine f_tr ?_
            apply k_ret [] hB h
          refine l_off ?_
          refine l_off ?_
          refine l_off ?_
          refine l_off ?_
          refine l_pick_false ?_
          refine l_assign ?_
          refine k_nil ?_
          refine f_t ?_
          refine k_retc ?_
          refine f_br ?_
          refine f_tr ?_
          apply k_ret [] hB h
        refine l_off ?_
        refine l_off ?_
        refine l_off ?_
        refine l_off ?_
        refine l_pick_false ?_
        refine l_move ?_
        refine l_off ?_
        refine l_off ?_
        refine l_off ?_
        refine l_off ?_
        refine l_pick_false ?_
        refine l_assign ?_
        refine k_nil ?_
        refine f_t ?_
        refine k_retc ?_
        refine f_br ?_
        refine f_tr ?_
        apply k_ret [] hB h
      refine l_off ?_
      refine l_off ?_
      refine l_off ?_
      refine l_pick_false ?_
      refine l_move ?_
      refine l_off ?_
      refine l_off ?_
      refine l_off ?_
      refine l_off ?_
      refine l_pick_false ?_
      refine l_move ?_
      refine l_off ?_
      refine l_off ?_
      refine l_off ?_
      refine l_off ?_
      refine l_pick_false ?_
      refine l_assign ?_
      refine k_nil ?_
      refine f_t ?_
      refine k_retc ?_
      refine f_br ?_
      refine f_tr ?_
      apply k_ret [] hB h
    refine l_off ?_
    refine l_off ?_
    refine l_off ?_
    refine l_pick_false ?_
    refine l_move ?_
    refine l_off ?_
    refine l_off ?_
    refine l_off ?_
    refine l_pick_false ?_
    refine l_move ?_
    refine l_off ?_
    refine l_off ?_
    refine l_off ?_
    refine l_off ?_
    refine l_pick_false ?_
    refine l_move ?_
    refine l_off ?_
    refine l_off ?_
    refine l_off ?_
    refine l_off ?_
    refine l_pick_false ?_
    refine l_assign ?_
    refine k_nil ?_
    refine f_t ?_
    refine k_retc ?_
    refine f_br ?_
    refine f_tr ?_
    apply k_ret [] hB h
  refine k_seq ?_
  refine k_reg ?_
  refine l_cmp ?_
  refine l_assign ?_
  refine k_nil ?_
  refine f_t ?_
  refine k_if h (fun _ h => ?_) (fun _ h => ?_)
  · refine k_seq ?_
    refine k_cut (fun q13 => (.normal, ⟨[(7, .ptr 1007 0), (8, B q13)], [(1007, .box 89 [I v1.Kind, I v1.Parent, S v1.Prefix, S v1.Local, S v1.URI, S v1.Text, .vs v1.Decls.length (F c_TDecl v1.Decls), .vs v1.Attrs.length (F c_TAttr v1.Attrs)])], []⟩)) h (fun t h => ?_) (fun q13 h => ?_)
    · refine k_reg ?_
      refine l_fieldAddr ?_
      refine l_load ?_
      refine l_sne ?_
      refine l_move ?_
      refine l_split h (fun _ h => ?_) (fun _ h => ?_)
      · refine l_on ?_
        refine l_fieldAddr ?_
        refine l_on ?_
        refine l_load ?_
        refine l_on ?_
        refine l_ats h (fun v11 _ h => ?_)
        refine l_on ?_
        refine l_call h (fun _ => name_Blank_ok) (fun v12 _ h => ?_)
        refine l_pick_true ?_
        refine l_assign ?_
        refine k_nil ?_
        exact k_out [(1007, 1007)] hB h
      refine l_off ?_
      refine l_off ?_
      refine l_off ?_
      refine l_off ?_
      refine l_pick_false ?_
      refine l_assign ?_
      refine k_nil ?_
      exact k_out [(1007, 1007)] hB h
    refine f_t ?_
    refine k_seq ?_
    refine k_reg ?_
    refine l_load_agg ?_
    refine l_call h (fun _ => doc_bare_ok) (fun v14 _ h => ?_)
    refine l_move ?_
    refine l_split h (fun _ h => ?_) (fun _ h => ?_)
    · refine l_on ?_
      refine l_fieldAddr ?_
      refine l_on ?_
      refine l_load ?_
      refine l_on ?_
      refine l_call h (fun _ => name_Is_ok) (fun v15 _ h => ?_)
      refine l_to [(1007, 1007)] ⟨[(7, .ptr 1007 0), (8, B q13), (100, B true), (103, B v15)], [(1007, .box 89 [I v1.Kind, I v1.Parent, S v1.Prefix, S v1.Local, S v1.URI, S v1.Text, .vs v1.Decls.length (F c_TDecl v1.Decls), .vs v1.Attrs.length (F c_TAttr v1.Attrs)])], []⟩ hB ?_
      refine l_pick_true ?_
      refine l_move ?_
      refine l_split h (fun _ h => ?_) (fun _ h => ?_)
      · refine l_on ?_
        refine l_fieldAddr ?_
        refine l_on ?_
        refine l_load ?_
        refine l_on ?_
        cases h
      refine l_off ?_
      refine l_off ?_
      refine l_off ?_
      refine l_off ?_
      refine l_pick_false ?_
      refine l_move ?_
      refine l_off ?_
      refine l_off ?_
      refine l_off ?_
      refine l_pick_false ?_
      refine l_move ?_
      refine l_off ?_
      refine l_off ?_
      refine l_off ?_
      refine l_off ?_
      refine l_pick_false ?_
      refine l_move ?_
      refine l_off ?_
      refine l_off ?_
      refine l_pick_false ?_
      refine l_assign ?_
      refine k_nil ?_
      refine f_t ?_
      refine k_retc ?_
      refine f_br ?_
      refine f_tr ?_
      apply k_ret [] hB h
    refine l_off ?_
    refine l_off ?_
    refine l_off ?_
    refine l_pick_false ?_
    refine l_move ?_
    refine l_off ?_
    refine l_off ?_
    refine l_off ?_
    refine l_off ?_
    refine l_pick_false ?_
    refine l_move ?_
    refine l_off ?_
    refine l_off ?_
    refine l_off ?_
    refine l_pick_false ?_
    refine l_move ?_
    refine l_off ?_
    refine l_off ?_
    refine l_off ?_
    refine l_off ?_
    refine l_pick_false ?_
    refine l_move ?_
    refine l_off ?_
    refine l_off ?_
    refine l_pick_false ?_
    refine l_assign ?_
    refine k_nil ?_
    refine f_t ?_
    refine k_retc ?_
    refine f_br ?_
    refine f_tr ?_
    apply k_ret [] hB h
  refine k_skip ?_
  refine f_b ?_
  refine f_t ?_
  refine k_seq ?_
  refine k_reg ?_
  refine l_assign ?_
  refine k_nil ?_
  refine f_t ?_
  refine k_retc ?_
  apply k_ret [] hB h
theorem doc_under_ok {x : TNode} {r : Bool} (h : doc_under x = some r) : XSpec Tryz.prog 138 [.agg (c_TNode x)] [] (B r) [] [] := by
  unfold doc_under at h
  refine X_of_run Tryz.hU Tryz.func138 (fun _ _ _ hB => ?_)
  refine k_seq ?_
  refine k_reg ?_
  refine l_box ?_
  refine l_assign ?_
  refine k_nil ?_
  refine f_t ?_
  refine k_seq ?_
  refine k_reg ?_
  refine l_fieldAddr ?_
  refine l_load ?_
  refine l_cmp ?_
  refine l_move ?_
  refine l_split h (fun _ h => ?_) (fun _ h => ?_)
  · refine l_off ?_
    refine l_off ?_
    refine l_off ?_
    refine l_pick_true ?_
    refine l_assign ?_
    refine k_nil ?_
    refine f_t ?_
    refine k_retc ?_
    apply k_ret [] hB h
  refine l_on ?_
  refine l_fieldAddr ?_
  refine l_on ?_
  refine l_load ?_
  refine l_on ?_
  refine l_cmp ?_
  refine l_pick_false ?_
  refine l_assign ?_
  refine k_nil ?_
  refine f_t ?_
  refine k_retc ?_
  apply k_ret [] hB h
theorem doc_check_ok {l : (List TNode)} {r : Int × Bool} (h : doc_check l = some r) : XSpec Tryz.prog 91 [.vs l.length (F c_TNode l)] [] (.tup [I r.1, B r.2]) [] [] := by
  unfold doc_check at h
  refine X_of_run Tryz.hU Tryz.func91 (fun _ _ _ hB => ?_)
  refine k_seq ?_
  refine k_reg ?_
  refine l_assign ?_
  refine l_assign ?_
  refine k_nil ?_
  refine f_t ?_
  refine k_seq ?_
  refine k_seq ?_
  refine k_cut (fun q7 => (.normal, ⟨[(0, .vs l.length (F c_TNode l)), (45, B q7)], [], []⟩)) h (fun t h => ?_) (fun q7 h => ?_)
  · refine k_reg ?_
    refine l_move ?_
    refine l_len ?_
    refine l_cmp ?_
    refine l_move ?_
    refine l_split h (fun _ h => ?_) (fun _ h => ?_)
    · refine l_off ?_
      refine l_off ?_
      refine l_off ?_
      refine l_off ?_
      refine l_off ?_
      refine l_pick_true ?_
      refine l_move ?_
      refine l_off ?_
      refine l_off ?_
      refine l_off ?_
      refine l_off ?_
      refine l_off ?_
      refine l_pick_true ?_
      refine l_move ?_
      refine l_off ?_
      refine l_off ?_
      refine l_off ?_
      refine l_off ?_
      refine l_off ?_
      refine l_pick_true ?_
      refine l_move ?_
      refine l_off ?_
      refine l_off ?_
      refine l_off ?_
      refine l_off ?_
      refine l_off ?_
      refine l_pick_true ?_
      refine l_move ?_
      refine l_off ?_
      refine l_off ?_
      refine l_off ?_
      refine l_off ?_
      refine l_off ?_
      refine l_pick_true ?_
      refine k_nil ?_
      exact k_out [] hB h
    refine l_on ?_
    refine l_move ?_
    refine l_on ?_
    refine l_at h (fun v1 _ h => ?_)
    refine l_on ?_
    refine l_fieldAddr ?_
    refine l_on ?_
    refine l_load ?_
    refine l_on ?_
    refine l_cmp ?_
    refine l_pick_false ?_
    refine l_move ?_
    refine l_split h (fun _ h => ?_) (fun _ h => ?_)
    · refine l_off ?_
      refine l_off ?_
      refine l_off ?_
      refine l_off ?_
      refine l_off ?_
      refine l_pick_true ?_
      refine l_move ?_
      refine l_off ?_
      refine l_off ?_
      refine l_off ?_
      refine l_off ?_
      refine l_off ?_
      refine l_pick_true ?_
      refine l_move ?_
      refine l_off ?_
      refine l_off ?_
      refine l_off ?_
      refine l_off ?_
      refine l_off ?_
      refine l_pick_true ?_
      refine l_move ?_
      refine l_off ?_
      refine l_off ?_
      refine l_off ?_
      refine l_off ?_
      refine l_off ?_
      refine l_pick_true ?_
      refine k_nil ?_
      exact k_out [] hB h
    refine l_on ?_
    refine l_move ?_
    refine l_on ?_
    refine l_at h (fun v2 _ h => ?_)
    refine l_on ?_
    refine l_fieldAddr ?_
    refine l_on ?_
    refine l_load ?_
    refine l_on ?_
    refine l_cmp ?_
    refine l_pick_false ?_
    refine l_move ?_
    refine l_split h (fun _ h => ?_) (fun _ h => ?_)
    · refine l_off ?_
      refine l_off ?_
      refine l_off ?_
      refine l_off ?_
      refine l_off ?_
      refine l_pick_true ?_
      refine l_move ?_
      refine l_off ?_
      refine l_off ?_
      refine l_off ?_
      refine l_off ?_
      refine l_off ?_
      refine l_pick_true ?_
      refine l_move ?_
      refine l_off ?_
      refine l_off ?_
      refine l_off ?_
      refine l_off ?_
      refine l_off ?_
      refine l_pick_true ?_
      refine k_nil ?_
      exact k_out [] hB h
    refine l_on ?_
    refine l_move ?_
    refine l_on ?_
    refine l_at h (fun v3 _ h => ?_)
    refine l_on ?_
    refine l_load_agg ?_
    refine l_on ?_
    refine l_call h (fun _ => doc_bare_ok) (fun v4 _ h => ?_)
    refine l_on ?_
    refine l_un ?_
    refine l_pick_false ?_
    refine l_move ?_
    refine l_split h (fun _ h => ?_) (fun _ h => ?_)
    · refine l_off ?_
      refine l_off ?_
      refine l_off ?_
      refine l_off ?_
      refine l_off ?_
      refine l_pick_true ?_
      refine l_move ?_
      refine l_off ?_
      refine l_off ?_
      refine l_off ?_
      refine l_off ?_
      refine l_off ?_
      refine l_pick_true ?_
      refine k_nil ?_
      exact k_out [] hB h
    refine l_on ?_
    refine l_move ?_
    refine l_on ?_
    refine l_at h (fun v5 _ h => ?_)
    refine l_on ?_
    refine l_fieldAddr ?_
    refine l_on ?_
    refine l_load ?_
    refine l_on ?_
    refine l_sne ?_
    refine l_pick_false ?_
    refine l_move ?_
    refine l_split h (fun _ h => ?_) (fun _ h => ?_)
    · refine l_off ?_
      refine l_off ?_
      refine l_off ?_
      refine l_off ?_
      refine l_off ?_
      refine l_pick_true ?_
      refine k_nil ?_
      exact k_out [] hB h
    refine l_on ?_
    refine l_move ?_
    refine l_on ?_
    refine l_at h (fun v6 _ h => ?_)
    refine l_on ?_
    refine l_fieldAddr ?_
    refine l_on ?_
    refine l_load ?_
    refine l_on ?_
    refine l_sne ?_
    refine l_pick_false ?_
    refine k_nil ?_
    exact k_out [] hB h
  refine f_t ?_
  refine k_if h (fun _ h => ?_) (fun _ h => ?_)
  · refine k_seq ?_
    refine k_reg ?_
    refine l_assign ?_
    refine l_assign ?_
    refine k_nil ?_
    refine f_t ?_
    refine k_retc ?_
    refine f_tr ?_
    apply k_ret [] hB h
  refine k_skip ?_
  refine f_t ?_
  refine k_seq ?_
  refine k_reg ?_
  refine l_move ?_
  refine l_len ?_
  refine l_make (e := cI) (z := 0) h (fun v8 ev8 h => ?_)
  refine l_assign ?_
  refine k_nil ?_
  refine f_t ?_
  refine k_seq ?_
  refine k_seq ?_
  refine k_reg ?_
  refine l_move ?_
  refine l_len ?_
  refine l_move ?_
  refine k_nil ?_
  refine f_t ?_
  refine k_block ?_
  refine k_loop (fun y9 => ⟨[(0, .vs l.length (F c_TNode l)), (4, .sl 1048 0 y9.2.length), (50, I (v8.length : Int)), (51, I y9.1)], [(1048, .row 3 1 0 (F cI y9.2))], []⟩) (fun q12 => (.exit 0, ⟨[(0, .vs l.length (F c_TNode l)), (4, .sl 1048 0 q12.length)], [(1048, .row 3 1 0 (F cI q12))], []⟩)) [(1048, 1048)] hB h (fun y9 t h => ?_) (fun q12 h => ?_)
  · unfold doc_check_b1 at h
    refine k_seq ?_
    refine k_reg ?_
    refine l_cmp ?_
    refine k_nil ?_
    refine f_t ?_
    refine k_seq ?_
    refine k_if h (fun _ h => ?_) (fun _ h => ?_)
    · refine k_skip ?_
      refine f_t ?_
      refine k_seq ?_
      refine k_block ?_
      refine k_seq ?_
      refine k_reg ?_
      refine l_move ?_
      refine l_assign ?_
      refine k_nil ?_
      refine f_t ?_
      refine k_reg ?_
      refine l_move ?_
      refine l_move ?_
      refine l_ato h (fun v10 ev10 h => ?_)
      refine l_put0 ev10 h (fun v11 ev11 h => ?_)
      refine k_nil ?_
      refine f_b ?_
      refine f_t ?_
      refine k_reg ?_
      refine l_addw ?_
      refine l_move ?_
      refine k_nil ?_
      refine f_relen 4 v11.length ?_
      exact k_next [(1048, 1048)] hB h
    refine k_exit ?_
    refine f_te ?_
    exact k_brk [(1048, 1048)] hB h
  refine f_be ?_
  refine f_t ?_
  refine k_seq ?_
  refine k_reg ?_
  refine l_assign ?_
  refine k_nil ?_
  refine f_t ?_
  refine k_seq ?_
  refine k_seq ?_
  refine k_reg ?_
  refine l_assign ?_
  refine k_nil ?_
  refine f_t ?_
  refine k_block ?_
  refine k_loop (fun y13 => ⟨[(0, .vs l.length (F c_TNode l)), (4, .sl 1048 0 y13.2.2.length), (6, I y13.1), (7, I y13.2.1)], [(1048, .row 3 1 0 (F cI y13.2.2))], []⟩) (Sum.elim (fun q32 => (.ret, ⟨[(2, I 0), (3, B false)], [], []⟩)) (fun q33 => (.exit 2, ⟨[(6, I q33)], [], []⟩))) [(1048, 1048)] hB h (fun y13 t h => ?_) (fun q h => ?_)
  · unfold doc_check_b2 at h
    refine k_seq ?_
    refine k_seq ?_
    refine k_reg ?_
    refine l_move ?_
    refine l_move ?_
    refine l_len ?_
    refine l_cmp ?_
    refine k_nil ?_
    refine f_t ?_
    refine k_if h (fun _ h => ?_) (fun _ h => ?_)
    · refine k_skip ?_
      refine f_t ?_
      refine k_seq ?_
      refine k_block ?_
      refine k_seq ?_
      refine k_seq ?_
      refine k_cut (fun q20 => (.normal, ⟨[(0, .vs l.length (F c_TNode l)), (4, .sl 1048 0 y13.2.2.length), (6, I y13.1), (7, I y13.2.1), (89, B q20)], [(1048, .row 3 1 0 (F cI y13.2.2))], []⟩)) h (fun t h => ?_) (fun q20 h => ?_)
      · refine k_reg ?_
        refine l_move ?_
        refine l_move ?_
        refine l_call h (fun _ => doc_stands_ok) (fun v14 _ h => ?_)
        refine l_un ?_
        refine l_move ?_
        refine l_split h (fun _ h => ?_) (fun _ h => ?_)
        · refine l_off ?_
          refine l_off ?_
          refine l_off ?_
          refine l_off ?_
          refine l_off ?_
          refine l_off ?_
          refine l_off ?_
          refine l_off ?_
          refine l_off ?_
          refine l_off ?_
          refine l_off ?_
          refine l_off ?_
          refine l_pick_true ?_
          refine l_move ?_
          refine l_off ?_
          refine l_off ?_
          refine l_off ?_
          refine l_off ?_
          refine l_off ?_
          refine l_off ?_
          refine l_pick_true ?_
          refine k_nil ?_
          exact k_out [(1048, 1048)] hB h
        refine l_on ?_
        refine l_move ?_
        refine l_on ?_
        refine l_move ?_
        refine l_on ?_
        refine l_move ?_
        refine l_on ?_
        refine l_move ?_
        refine l_on ?_
        refine l_move ?_
        refine l_on ?_
        refine l_at h (fun v15 _ h => ?_)
        refine l_on ?_
        refine l_fieldAddr ?_
        refine l_on ?_
        refine l_load ?_
        refine l_on ?_
        refine l_ato h (fun v16 ev16 h => ?_)
        refine l_on ?_
        refine l_ldr0 ev16 ?_
        refine l_on ?_
        refine l_call h (fun _ => doc_formed_ok) (fun v17 _ h => ?_)
        refine l_on ?_
        refine l_un ?_
        refine l_pick_false ?_
        refine l_move ?_
        refine l_split h (fun _ h => ?_) (fun _ h => ?_)
        · refine l_off ?_
          refine l_off ?_
          refine l_off ?_
          refine l_off ?_
          refine l_off ?_
          refine l_off ?_
          refine l_pick_true ?_
          refine k_nil ?_
          exact k_out [(1048, 1048)] hB h
        refine l_on ?_
        refine l_move ?_
        refine l_on ?_
        refine l_move ?_
        refine l_on ?_
        refine l_at h (fun v18 _ h => ?_)
        refine l_on ?_
        refine l_load_agg ?_
        refine l_on ?_
        refine l_call h (fun _ => doc_under_ok) (fun v19 _ h => ?_)
        refine l_on ?_
        refine l_un ?_
        refine l_pick_false ?_
        refine k_nil ?_
        exact k_out [(1048, 1048)] hB h
      refine f_t ?_
      refine k_if h (fun _ h => ?_) (fun _ h => ?_)
      · refine k_seq ?_
        refine k_reg ?_
        refine l_assign ?_
        refine l_assign ?_
        refine k_nil ?_
        refine f_t ?_
        refine k_retc ?_
        refine f_tr ?_
        refine f_br ?_
        refine f_tr ?_
        exact k_brk [] hB h
      refine k_skip ?_
      refine f_t ?_
      refine k_seq ?_
      refine k_seq ?_
      refine k_reg ?_
      refine l_move ?_
      refine l_move ?_
      refine l_at h (fun v21 _ h => ?_)
      refine l_fieldAddr ?_
      refine l_load ?_
      refine l_cmp ?_
      refine l_move ?_
      refine l_split h (fun _ h => ?_) (fun _ h => ?_)
      · refine l_on ?_
        refine l_move ?_
        refine l_on ?_
        refine l_move ?_
        refine l_on ?_
        refine l_at h (fun v22 _ h => ?_)
        refine l_on ?_
        refine l_fieldAddr ?_
        refine l_on ?_
        refine l_load ?_
        refine l_on ?_
        refine l_cmp ?_
        refine l_pick_true ?_
        refine k_nil ?_
        refine f_t ?_
        refine k_if h (fun _ h => ?_) (fun _ h => ?_)
        · refine k_seq ?_
          refine k_seq ?_
          refine k_reg ?_
          refine l_move ?_
          refine l_cmp ?_
          refine k_nil ?_
          refine f_t ?_
          refine k_if h (fun _ h => ?_) (fun _ h => ?_)
          · refine k_seq ?_
            refine k_reg ?_
            refine l_assign ?_
            refine l_assign ?_
            refine k_nil ?_
            refine f_t ?_
            refine k_retc ?_
            refine f_tr ?_
            refine f_tr ?_
            refine f_br ?_
            refine f_tr ?_
            exact k_brk [] hB h
          refine k_skip ?_
          refine f_t ?_
          refine k_reg ?_
          refine l_move ?_
          refine l_assign ?_
          refine k_nil ?_
          refine f_t ?_
          refine k_reg ?_
          refine l_move ?_
          refine l_move ?_
          refine l_move ?_
          refine l_at h (fun v23 _ h => ?_)
          refine l_fieldAddr ?_
          refine l_load ?_
          refine l_move ?_
          refine l_ato h (fun v24 ev24 h => ?_)
          refine l_put0 ev24 h (fun v25 ev25 h => ?_)
          refine k_nil ?_
          refine f_b ?_
          refine f_t ?_
          refine k_reg ?_
          refine l_move ?_
          refine l_addw ?_
          refine l_assign ?_
          refine k_nil ?_
          refine f_relen 4 v25.length ?_
          exact k_next [(1048, 1048)] hB h
        refine k_skip ?_
        refine f_t ?_
        refine k_reg ?_
        refine l_move ?_
        refine l_move ?_
        refine l_move ?_
        refine l_at h (fun v26 _ h => ?_)
        refine l_fieldAddr ?_
        refine l_load ?_
        refine l_move ?_
        refine l_ato h (fun v27 ev27 h => ?_)
        refine l_put0 ev27 h (fun v28 ev28 h => ?_)
        refine k_nil ?_
        refine f_b ?_
        refine f_t ?_
        refine k_reg ?_
        refine l_move ?_
        refine l_addw ?_
        refine l_assign ?_
        refine k_nil ?_
        refine f_relen 4 v28.length ?_
        exact k_next [(1048, 1048)] hB h
      refine l_off ?_
      refine l_off ?_
      refine l_off ?_
      refine l_off ?_
      refine l_off ?_
      refine l_off ?_
      refine l_pick_false ?_
      refine k_nil ?_
      refine f_t ?_
      refine k_f ?_
      refine k_skip ?_
      refine f_t ?_
      refine k_reg ?_
      refine l_move ?_
      refine l_move ?_
      refine l_move ?_
      refine l_at h (fun v29 _ h => ?_)
      refine l_fieldAddr ?_
      refine l_load ?_
      refine l_move ?_
      refine l_ato h (fun v30 ev30 h => ?_)
      refine l_put0 ev30 h (fun v31 ev31 h => ?_)
      refine k_nil ?_
      refine f_b ?_
      refine f_t ?_
      refine k_reg ?_
      refine l_move ?_
      refine l_addw ?_
      refine l_assign ?_
      refine k_nil ?_
      refine f_relen 4 v31.length ?_
      exact k_next [(1048, 1048)] hB h
    refine k_exit ?_
    refine f_te ?_
    exact k_brk [] hB h
  rcases q with q32 | q33
  · dsimp only [Sum.elim] at h ⊢
    refine f_br ?_
    refine f_tr ?_
    apply k_ret [] hB h
  dsimp only [Sum.elim] at h ⊢
  refine f_be ?_
  refine f_t ?_
  refine k_seq ?_
  refine k_reg ?_
  refine l_move ?_
  refine l_move ?_
  refine l_cmp ?_
  refine l_assign ?_
  refine l_assign ?_
  refine k_nil ?_
  refine f_t ?_
  refine k_retc ?_
  apply k_ret [] hB h
theorem doc_within_ok {l : (List TNode)} {r : Bool} (h : doc_within l = some r) : XSpec Tryz.prog 92 [.vs l.length (F c_TNode l)] [] (B r) [] [] := by
  unfold doc_within at h
  refine X_of_run Tryz.hU Tryz.func92 (fun _ _ _ hB => ?_)
  refine k_seq ?_
  refine k_reg ?_
  refine l_assign ?_
  refine k_nil ?_
  refine f_t ?_
  refine k_seq ?_
  refine k_seq ?_
  refine k_reg ?_
  refine l_move ?_
  refine l_len ?_
  refine l_cmp ?_
  refine k_nil ?_
  refine f_t ?_
  refine k_if h (fun _ h => ?_) (fun _ h => ?_)
  · refine k_seq ?_
    refine k_reg ?_
    refine l_assign ?_
    refine k_nil ?_
    refine f_t ?_
    refine k_retc ?_
    refine f_tr ?_
    apply k_ret [] hB h
  refine k_skip ?_
  refine f_t ?_
  refine k_seq ?_
  refine k_reg ?_
  refine l_move ?_
  refine l_len ?_
  refine l_make (e := cI) (z := 0) h (fun v1 ev1 h => ?_)
  refine l_assign ?_
  refine k_nil ?_
  refine f_t ?_
  refine k_seq ?_
  refine k_seq ?_
  refine k_reg ?_
  refine l_move ?_
  refine l_len ?_
  refine l_move ?_
  refine k_nil ?_
  refine f_t ?_
  refine k_block ?_
  refine k_loop (fun y2 => ⟨[(3, .sl 1011 0 y2.2.length), (12, .vs l.length (F c_TNode l)), (13, I (l.length : Int)), (14, I y2.1)], [(1011, .row 3 1 0 (F cI y2.2))], []⟩) (Sum.elim (fun q9 => (.ret, ⟨[(2, B false)], [], []⟩)) (fun q10 => (.exit 0, ⟨[], [], []⟩))) [(1011, 1011)] hB h (fun y2 t h => ?_) (fun q h => ?_)
  · unfold doc_within_b1 at h
    refine k_seq ?_
    refine k_reg ?_
    refine l_cmp ?_
    refine k_nil ?_
    refine f_t ?_
    refine k_seq ?_
    refine k_if h (fun _ h => ?_) (fun _ h => ?_)
    · refine k_skip ?_
      refine f_t ?_
      refine k_seq ?_
      refine k_block ?_
      refine k_seq ?_
      refine k_reg ?_
      refine l_move ?_
      refine l_at h (fun v3 _ h => ?_)
      refine l_load_agg ?_
      refine l_alloc ?_
      refine l_assign ?_
      refine l_store_box ?_
      refine k_nil ?_
      refine f_t ?_
      refine k_seq ?_
      refine k_seq ?_
      refine k_reg ?_
      refine l_move ?_
      refine l_cmp ?_
      refine k_nil ?_
      refine f_t ?_
      refine k_if h (fun _ h => ?_) (fun _ h => ?_)
      · refine k_reg ?_
        refine l_move ?_
        refine l_move ?_
        refine l_move ?_
        refine l_fieldAddr ?_
        refine l_load ?_
        refine l_ato h (fun v4 ev4 h => ?_)
        refine l_ldr0 ev4 ?_
        refine l_addw ?_
        refine l_ato h (fun v5 ev5 h => ?_)
        refine l_put0 ev5 h (fun v6 ev6 h => ?_)
        refine k_nil ?_
        refine f_t ?_
        refine k_seq ?_
        refine k_reg ?_
        refine l_move ?_
        refine l_move ?_
        refine l_relen 30 v6.length ?_
        refine l_ato h (fun v7 ev7 h => ?_)
        refine l_ldr0 ev7 ?_
        refine l_cmp ?_
        refine l_move ?_
        refine l_split h (fun _ h => ?_) (fun _ h => ?_)
        · refine l_off ?_
          refine l_off ?_
          refine l_off ?_
          refine l_off ?_
          refine l_off ?_
          refine l_off ?_
          refine l_off ?_
          refine l_off ?_
          refine l_pick_true ?_
          refine k_nil ?_
          refine f_t ?_
          refine k_t ?_
          refine k_seq ?_
          refine k_reg ?_
          refine l_assign ?_
          refine k_nil ?_
          refine f_t ?_
          refine k_retc ?_
          refine f_br ?_
          refine f_tr ?_
          exact k_brk [] hB h
        refine l_on ?_
        refine l_fieldAddr ?_
        refine l_on ?_
        refine l_load ?_
        refine l_on ?_
        refine l_len ?_
        refine l_on ?_
        refine l_fieldAddr ?_
        refine l_on ?_
        refine l_load ?_
        refine l_on ?_
        refine l_len ?_
        refine l_on ?_
        refine l_addw ?_
        refine l_on ?_
        refine l_cmp ?_
        refine l_pick_false ?_
        refine k_nil ?_
        refine f_t ?_
        refine k_if h (fun _ h => ?_) (fun _ h => ?_)
        · refine k_seq ?_
          refine k_reg ?_
          refine l_assign ?_
          refine k_nil ?_
          refine f_t ?_
          refine k_retc ?_
          refine f_br ?_
          refine f_tr ?_
          exact k_brk [] hB h
        refine k_skip ?_
        refine f_b ?_
        refine f_t ?_
        refine k_reg ?_
        refine l_addw ?_
        refine l_move ?_
        refine k_nil ?_
        refine f_relen 3 v6.length ?_
        exact k_next [(1011, 1011)] hB h
      refine k_skip ?_
      refine f_t ?_
      refine k_seq ?_
      refine k_reg ?_
      refine l_move ?_
      refine l_move ?_
      refine l_ato h (fun v8 ev8 h => ?_)
      refine l_ldr0 ev8 ?_
      refine l_cmp ?_
      refine l_move ?_
      refine l_split h (fun _ h => ?_) (fun _ h => ?_)
      · refine l_off ?_
        refine l_off ?_
        refine l_off ?_
        refine l_off ?_
        refine l_off ?_
        refine l_off ?_
        refine l_off ?_
        refine l_off ?_
        refine l_pick_true ?_
        refine k_nil ?_
        refine f_t ?_
        refine k_t ?_
        refine k_seq ?_
        refine k_reg ?_
        refine l_assign ?_
        refine k_nil ?_
        refine f_t ?_
        refine k_retc ?_
        refine f_br ?_
        refine f_tr ?_
        exact k_brk [] hB h
      refine l_on ?_
      refine l_fieldAddr ?_
      refine l_on ?_
      refine l_load ?_
      refine l_on ?_
      refine l_len ?_
      refine l_on ?_
      refine l_fieldAddr ?_
      refine l_on ?_
      refine l_load ?_
      refine l_on ?_
      refine l_len ?_
      refine l_on ?_
      refine l_addw ?_
      refine l_on ?_
      refine l_cmp ?_
      refine l_pick_false ?_
      refine k_nil ?_
      refine f_t ?_
      refine k_if h (fun _ h => ?_) (fun _ h => ?_)
      · refine k_seq ?_
        refine k_reg ?_
        refine l_assign ?_
        refine k_nil ?_
        refine f_t ?_
        refine k_retc ?_
        refine f_br ?_
        refine f_tr ?_
        exact k_brk [] hB h
      refine k_skip ?_
      refine f_b ?_
      refine f_t ?_
      refine k_reg ?_
      refine l_addw ?_
      refine l_move ?_
      refine k_nil ?_
      exact k_next [(1011, 1011)] hB h
    refine k_exit ?_
    refine f_te ?_
    exact k_brk [] hB h
  rcases q with q9 | q10
  · dsimp only [Sum.elim] at h ⊢
    refine f_br ?_
    refine f_tr ?_
    apply k_ret [] hB h
  dsimp only [Sum.elim] at h ⊢
  refine f_be ?_
  refine f_t ?_
  refine k_seq ?_
  refine k_reg ?_
  refine l_assign ?_
  refine k_nil ?_
  refine f_t ?_
  refine k_retc ?_
  apply k_ret [] hB h
theorem slices_Clone_Decl_ok {s : (List TDecl)} {r : (List TDecl)} (h : slices_Clone_Decl s = some r) : XSpec Tryz.prog 34 [.vs s.length (F c_TDecl s)] [] (.sl 1 0 r.length) [(1, .row 68 2 0 (F c_TDecl r))] [] := by
  unfold slices_Clone_Decl at h
  refine X_of_run Tryz.hU Tryz.func34 (fun _ _ _ hB => ?_)
  refine k_seq ?_
  refine k_reg ?_
  refine l_assign ?_
  refine k_nil ?_
  refine f_t ?_
  refine k_seq ?_
  refine k_seq ?_
  refine k_reg ?_
  refine l_move ?_
  refine l_eqnil (fun bv1 hbv1 => ?_)
  refine k_nil ?_
  refine f_t ?_
  refine k_nd (fun e0 => ?_) (fun _ => ?_)
  · have e0 := List.eq_nil_of_length_eq_zero (hbv1 e0)
    try rw [e0] at h
    change (some []) = _ at h
    refine k_seq ?_
    refine k_reg ?_
    refine l_assign ?_
    refine k_nil ?_
    refine f_t ?_
    refine k_retc ?_
    refine f_tr ?_
    refine f_nilrow (te := 68) (t := 2) 3002 2 ?_
    apply k_ret [(3002, 1)] hB h
  refine k_skip ?_
  refine f_t ?_
  refine k_seq ?_
  refine k_reg ?_
  refine l_buildSlice0 ?_
  refine l_move ?_
  refine l_appf h (fun v2 _ h => ?_)
  refine l_assign ?_
  refine k_nil ?_
  refine f_t ?_
  refine k_retc ?_
  apply k_ret [(1005, 1)] hB h
theorem slices_Clone_Attr_ok {s : (List TAttr)} {r : (List TAttr)} (h : slices_Clone_Attr s = some r) : XSpec Tryz.prog 139 [.vs s.length (F c_TAttr s)] [] (.sl 1 0 r.length) [(1, .row 120 4 0 (F c_TAttr r))] [] := by
  unfold slices_Clone_Attr at h
  refine X_of_run Tryz.hU Tryz.func139 (fun _ _ _ hB => ?_)
  refine k_seq ?_
  refine k_reg ?_
  refine l_assign ?_
  refine k_nil ?_
  refine f_t ?_
  refine k_seq ?_
  refine k_seq ?_
  refine k_reg ?_
  refine l_move ?_
  refine l_eqnil (fun bv1 hbv1 => ?_)
  refine k_nil ?_
  refine f_t ?_
  refine k_nd (fun e0 => ?_) (fun _ => ?_)
  · have e0 := List.eq_nil_of_length_eq_zero (hbv1 e0)
    try rw [e0] at h
    change (some []) = _ at h
    refine k_seq ?_
    refine k_reg ?_
    refine l_assign ?_
    refine k_nil ?_
    refine f_t ?_
    refine k_retc ?_
    refine f_tr ?_
    refine f_nilrow (te := 120) (t := 2) 3002 4 ?_
    apply k_ret [(3002, 1)] hB h
  refine k_skip ?_
  refine f_t ?_
  refine k_seq ?_
  refine k_reg ?_
  refine l_buildSlice0 ?_
  refine l_move ?_
  refine l_appf h (fun v2 _ h => ?_)
  refine l_assign ?_
  refine k_nil ?_
  refine f_t ?_
  refine k_retc ?_
  apply k_ret [(1005, 1)] hB h
theorem doc_clone_ok {x : TNode} {r : Int × Int × Str × Str × Str × Str × (List TDecl) × (List TAttr)} (h : doc_clone x = some r) : XSpec Tryz.prog 93 [.agg (c_TNode x)] [] (.agg [I r.1, I r.2.1, S r.2.2.1, S r.2.2.2.1, S r.2.2.2.2.1, S r.2.2.2.2.2.1, .sl 1 0 r.2.2.2.2.2.2.1.length, .sl 2 0 r.2.2.2.2.2.2.2.length]) [(1, .row 68 2 0 (F c_TDecl r.2.2.2.2.2.2.1)), (2, .row 120 4 0 (F c_TAttr r.2.2.2.2.2.2.2))] [] := by
  unfold doc_clone at h
  refine X_of_run Tryz.hU Tryz.func93 (fun _ _ _ hB => ?_)
  refine k_seq ?_
  refine k_reg ?_
  refine l_box ?_
  refine l_alloc ?_
  refine k_nil ?_
  refine f_t ?_
  refine k_seq ?_
  refine k_mix [7, 9] (.q 0 (.q 1 (.q 3 (.q 4 (.e 2 (.q 6 (.e 5 (.e 7 (.q 8 (.e 9 (.done))))))))))) hm ?_
  refine gq ?_
  refine n_fieldAddr ?_
  refine gq ?_
  refine n_load ?_
  refine gq ?_
  refine n_fieldAddr ?_
  refine gq ?_
  refine n_load ?_
  refine ge ?_
  refine n_callX [(1, 100501)] [] h (fun _ => slices_Clone_Decl_ok) (fun v1 _ h => ?_)
  refine gq ?_
  refine n_fieldAddr ?_
  refine ge ?_
  refine n_callX [(1, 100801)] [] h (fun _ => slices_Clone_Attr_ok) (fun v2 _ h => ?_)
  refine ge ?_
  refine n_store_box ?_
  refine gq ?_
  refine n_fieldAddr ?_
  refine ge ?_
  refine n_store_box ?_
  refine m_nil ?_
  refine f_t ?_
  refine k_seq ?_
  refine k_reg ?_
  refine l_load_agg ?_
  refine l_store_box ?_
  refine k_nil ?_
  refine f_t ?_
  refine k_retc ?_
  apply k_ret [(100501, 1), (100801, 2)] hB h
theorem doc_Of_ok {l : (List TNode)} {r : (Option TDoc) × Int} (h : doc_Of l = some r) : XSpec Tryz.prog 54 [.vs l.length (F c_TNode l)] [] (.tup [oP c_TDoc r.1, I r.2]) [] [] := by
  unfold doc_Of at h
  refine X_of_run Tryz.hU Tryz.func54 (fun _ _ _ hB => ?_)
  refine k_seq ?_
  refine k_reg ?_
  refine l_assign ?_
  refine l_assign ?_
  refine k_nil ?_
  refine f_t ?_
  refine k_seq ?_
  refine k_reg ?_
  refine l_move ?_
  refine l_call h (fun _ => doc_check_ok) (fun v1 _ h => ?_)
  refine l_move ?_
  refine l_extract ?_
  refine l_extract ?_
  refine l_assign ?_
  refine l_assign ?_
  refine k_nil ?_
  refine f_t ?_
  refine k_seq ?_
  refine k_block ?_
  refine k_seq ?_
  refine k_reg ?_
  refine l_move ?_
  refine l_un ?_
  refine l_assign ?_
  refine k_nil ?_
  refine f_t ?_
  refine k_if h (fun _ h => ?_) (fun _ h => ?_)
  · refine k_seq ?_
    refine k_reg ?_
    refine l_assign ?_
    refine l_assign ?_
    refine k_nil ?_
    refine f_t ?_
    refine k_retc ?_
    refine f_br ?_
    refine f_tr ?_
    apply k_retN [] hB h
  refine k_seq ?_
  refine k_reg ?_
  refine l_move ?_
  refine l_call h (fun _ => doc_within_ok) (fun v2 _ h => ?_)
  refine l_un ?_
  refine l_assign ?_
  refine k_nil ?_
  refine f_t ?_
  refine k_if h (fun _ h => ?_) (fun _ h => ?_)
  · refine k_seq ?_
    refine k_reg ?_
    refine l_assign ?_
    refine l_assign ?_
    refine k_nil ?_
    refine f_t ?_
    refine k_retc ?_
    refine f_br ?_
    refine f_tr ?_
    apply k_retN [] hB h
  refine k_skip ?_
  refine f_b ?_
  refine f_t ?_
  refine k_seq ?_
  refine k_reg ?_
  refine l_move ?_
  refine l_len ?_
  refine l_make (e := cI) (z := 0) h (fun v3 ev3 h => ?_)
  refine l_move ?_
  refine l_build ?_
  refine l_box ?_
  refine l_assign ?_
  refine k_nil ?_
  refine f_t ?_
  refine k_seq ?_
  refine k_seq ?_
  refine k_reg ?_
  refine l_move ?_
  refine l_len ?_
  refine l_move ?_
  refine k_nil ?_
  refine f_t ?_
  refine k_block ?_
  refine k_nilcell (te := 89) (b1 := 1028) (j := 0) 13280 8 ?_
  refine k_loop (fun y4 => ⟨[(0, .vs l.length (F c_TNode l)), (6, .ptr 1028 0), (29, .vs l.length (F c_TNode l)), (30, I (l.length : Int)), (31, I y4.1)], [(1028, .box 141 [.sl 13280 0 y4.2.length, .sl 1025 0 v3.length, I v1.1]), (13280, .row 89 8 0 (F c_TNode y4.2)), (1025, .row 3 1 0 (F cI v3))], []⟩) (fun q8 => (.exit 1, ⟨[(0, .vs l.length (F c_TNode l)), (6, .ptr 1028 0)], [(1028, .box 141 [.sl 13280 0 q8.length, .sl 1025 0 v3.length, I v1.1]), (13280, .row 89 8 0 (F c_TNode q8)), (1025, .row 3 1 0 (F cI v3))], []⟩)) [(1028, 1028), (13280, 13280), (1025, 1025)] hB h (fun y4 t h => ?_) (fun q8 h => ?_)
  · unfold doc_Of_b1 at h
    refine k_seq ?_
    refine k_reg ?_
    refine l_cmp ?_
    refine k_nil ?_
    refine f_t ?_
    refine k_seq ?_
    refine k_if h (fun _ h => ?_) (fun _ h => ?_)
    · refine k_skip ?_
      refine f_t ?_
      refine k_seq ?_
      refine k_block ?_
      refine k_seq ?_
      refine k_reg ?_
      refine l_at h (fun v5 _ h => ?_)
      refine l_load_agg ?_
      refine l_alloc ?_
      refine l_store_box ?_
      refine k_nil ?_
      refine f_t ?_
      refine k_mix [8, 11] (.q 1 (.q 2 (.q 3 (.q 4 (.q 5 (.s 0 (.e 6 (.e 7 (.e 8 (.q 9 (.q 10 (.e 11 (.done))))))))))))) hm ?_
      refine gq ?_
      refine n_move ?_
      refine gq ?_
      refine n_nilCheck ?_
      refine gq ?_
      refine n_fieldAddr ?_
      refine gq ?_
      refine n_load ?_
      refine gq ?_
      refine n_load_agg ?_
      refine gs ?_
      refine x_move ?_
      refine ge ?_
      refine n_callX [(1, 104101), (2, 104102)] [] h (fun _ => doc_clone_ok) (fun v6 _ h => ?_)
      refine m_frz 104101 ?_
      refine m_frz 104102 ?_
      refine ge ?_
      refine n_lit (e := c_TNode) [(TNode.mk v6.1 v6.2.1 v6.2.2.1 v6.2.2.2.1 v6.2.2.2.2.1 v6.2.2.2.2.2.1 v6.2.2.2.2.2.2.1 v6.2.2.2.2.2.2.2)] ?_
      refine ge ?_
      refine n_appo h (fun v7 _ h => ?_)
      refine gq ?_
      refine n_nilCheck ?_
      refine gq ?_
      refine n_fieldAddr ?_
      refine ge ?_
      refine n_store_box ?_
      refine m_nil ?_
      refine f_b ?_
      refine f_t ?_
      refine k_reg ?_
      refine l_addw ?_
      refine l_move ?_
      refine k_nil ?_
      exact k_next [(1028, 1028), (13280, 13280), (1025, 1025)] hB h
    refine k_exit ?_
    refine f_te ?_
    exact k_brk [(1028, 1028), (13280, 13280), (1025, 1025)] hB h
  refine f_be ?_
  refine f_t ?_
  refine k_seq ?_
  refine k_seq ?_
  refine k_reg ?_
  refine l_move ?_
  refine l_len ?_
  refine l_subw ?_
  refine l_assign ?_
  refine k_nil ?_
  refine f_t ?_
  refine k_block ?_
  refine k_loop (fun y9 => ⟨[(0, .vs l.length (F c_TNode l)), (6, .ptr 1028 0), (9, I y9.1)], [(1028, .box 141 [.sl 13280 0 q8.length, .sl 1025 0 y9.2.length, I v1.1]), (13280, .row 89 8 0 (F c_TNode q8)), (1025, .row 3 1 0 (F cI y9.2))], []⟩) (fun q18 => (.exit 3, ⟨[(6, .ptr 1028 0)], [(1028, .box 141 [.sl 13280 0 q8.length, .sl 1025 0 q18.length, I v1.1]), (13280, .row 89 8 0 (F c_TNode q8)), (1025, .row 3 1 0 (F cI q18))], []⟩)) [(1028, 1028), (13280, 13280), (1025, 1025)] hB h (fun y9 t h => ?_) (fun q18 h => ?_)
  · unfold doc_Of_b2 at h
    refine k_seq ?_
    refine k_seq ?_
    refine k_reg ?_
    refine l_move ?_
    refine l_cmp ?_
    refine k_nil ?_
    refine f_t ?_
    refine k_if h (fun _ h => ?_) (fun _ h => ?_)
    · refine k_skip ?_
      refine f_t ?_
      refine k_seq ?_
      refine k_block ?_
      refine k_seq ?_
      refine k_mix [16] (.q 0 (.q 1 (.q 2 (.q 3 (.q 4 (.q 5 (.q 6 (.q 7 (.q 8 (.q 9 (.q 10 (.q 11 (.q 12 (.q 13 (.q 14 (.q 15 (.e 16 (.done)))))))))))))))))) hm ?_
      refine gq ?_
      refine n_move ?_
      refine gq ?_
      refine n_nilCheck ?_
      refine gq ?_
      refine n_fieldAddr ?_
      refine gq ?_
      refine n_load ?_
      refine gq ?_
      refine n_move ?_
      refine gq ?_
      refine n_move ?_
      refine gq ?_
      refine n_nilCheck ?_
      refine gq ?_
      refine n_fieldAddr ?_
      refine gq ?_
      refine n_load ?_
      refine gq ?_
      refine n_move ?_
      refine gq ?_
      refine n_ato h (fun v10 ev10 h => ?_)
      refine gq ?_
      refine n_ldr0 ev10 ?_
      refine gq ?_
      refine n_move ?_
      refine gq ?_
      refine n_addw ?_
      refine gq ?_
      refine n_max2 ?_
      refine gq ?_
      refine n_ato h (fun v11 ev11 h => ?_)
      refine ge ?_
      refine n_put0 ev11 h (fun v12 ev12 h => ?_)
      refine m_nil ?_
      refine f_t ?_
      refine k_seq ?_
      refine k_reg ?_
      refine l_move ?_
      refine l_move ?_
      refine l_at h (fun v13 _ h => ?_)
      refine l_fieldAddr ?_
      refine l_load ?_
      refine l_assign ?_
      refine k_nil ?_
      refine f_t ?_
      refine k_seq ?_
      refine k_reg ?_
      refine l_move ?_
      refine l_cmp ?_
      refine k_nil ?_
      refine f_t ?_
      refine k_if h (fun _ h => ?_) (fun _ h => ?_)
      · refine k_mix [21] (.q 0 (.q 1 (.q 2 (.q 3 (.q 4 (.q 5 (.q 6 (.q 7 (.q 8 (.q 9 (.q 10 (.q 11 (.q 12 (.q 13 (.q 14 (.q 15 (.q 16 (.q 17 (.q 18 (.q 19 (.q 20 (.e 21 (.done))))))))))))))))))))))) hm ?_
        refine gq ?_
        refine n_move ?_
        refine gq ?_
        refine n_nilCheck ?_
        refine gq ?_
        refine n_fieldAddr ?_
        refine gq ?_
        refine n_load ?_
        refine gq ?_
        refine n_move ?_
        refine gq ?_
        refine n_move ?_
        refine gq ?_
        refine n_nilCheck ?_
        refine gq ?_
        refine n_fieldAddr ?_
        refine gq ?_
        refine n_load ?_
        refine gq ?_
        refine n_move ?_
        refine m_relen 85 v12.length ?_
        refine gq ?_
        refine n_ato h (fun v14 ev14 h => ?_)
        refine gq ?_
        refine n_ldr0 ev14 ?_
        refine gq ?_
        refine n_move ?_
        refine gq ?_
        refine n_nilCheck ?_
        refine gq ?_
        refine n_fieldAddr ?_
        refine gq ?_
        refine n_load ?_
        refine gq ?_
        refine n_move ?_
        refine m_relen 92 v12.length ?_
        refine gq ?_
        refine n_ato h (fun v15 ev15 h => ?_)
        refine gq ?_
        refine n_ldr0 ev15 ?_
        refine gq ?_
        refine n_max2 ?_
        refine m_relen 80 v12.length ?_
        refine gq ?_
        refine n_ato h (fun v16 ev16 h => ?_)
        refine ge ?_
        refine n_put0 ev16 h (fun v17 ev17 h => ?_)
        refine m_nil ?_
        refine f_b ?_
        refine f_t ?_
        refine k_reg ?_
        refine l_move ?_
        refine l_subw ?_
        refine l_assign ?_
        refine k_nil ?_
        refine f_relenc 1028 1 v17.length ?_
        exact k_next [(1028, 1028), (13280, 13280), (1025, 1025)] hB h
      refine k_skip ?_
      refine f_b ?_
      refine f_t ?_
      refine k_reg ?_
      refine l_move ?_
      refine l_subw ?_
      refine l_assign ?_
      refine k_nil ?_
      refine f_relenc 1028 1 v12.length ?_
      exact k_next [(1028, 1028), (13280, 13280), (1025, 1025)] hB h
    refine k_exit ?_
    refine f_te ?_
    exact k_brk [(1028, 1028), (13280, 13280), (1025, 1025)] hB h
  refine f_be ?_
  refine f_t ?_
  refine k_seq ?_
  refine k_reg ?_
  refine l_move ?_
  refine l_assign ?_
  refine l_assign ?_
  refine k_nil ?_
  refine f_t ?_
  refine k_retc ?_
  refine f_frz 13280 ?_
  refine f_frz 1025 ?_
  refine f_frz 1028 ?_
  apply k_ret [] hB h
theorem parse_reader_blanks_s8_ok {u1 : Str} {u2 : Bool} {u3 : Bool} {u4 : (List TNode)} {u5 : (List TOpen_)} {u6 : (List UInt8)} {r : Bool × Str} (h : parse_reader_blanks_s8 u1 u2 u3 u4 u5 u6 = some r) : XSpec Tryz.prog 80 [.ptr 8000101 0] [(8000101, .box 95 [S u1, .sl 8000102 0 u4.length, .sl 8000103 0 u5.length, .nptr u2 8000101 3, .sl 8000104 0 u6.length, B u3]), (8000102, .row 89 8 0 (F c_TNode u4)), (8000103, .row 168 2 0 (F c_TOpen_ u5)), (8000104, .row 5 1 0 (F cU u6))] (B r.1) [(8000101, .box 95 [S r.2, .sl 8000102 0 u4.length, .sl 8000103 0 u5.length, .nptr u2 8000101 3, .sl 8000104 0 u6.length, B u3]), (8000102, .row 89 8 0 (F c_TNode u4)), (8000103, .row 168 2 0 (F c_TOpen_ u5)), (8000104, .row 5 1 0 (F cU u6))] [] := by
  unfold parse_reader_blanks_s8 at h
  refine X_of_run Tryz.hU Tryz.func80 (fun _ _ _ hB => ?_)
  refine k_seq ?_
  refine k_reg ?_
  refine l_assign ?_
  refine k_nil ?_
  refine f_t ?_
  refine k_seq ?_
  refine k_reg ?_
  refine l_assign ?_
  refine k_nil ?_
  refine f_t ?_
  refine k_seq ?_
  refine k_block ?_
  refine k_loop (fun y1 => ⟨[(0, .ptr 8000101 0), (3, I y1)], [(8000101, .box 95 [S u1, .sl 8000102 0 u4.length, .sl 8000103 0 u5.length, .nptr u2 8000101 3, .sl 8000104 0 u6.length, B u3]), (8000102, .row 89 8 0 (F c_TNode u4)), (8000103, .row 168 2 0 (F c_TOpen_ u5)), (8000104, .row 5 1 0 (F cU u6))], []⟩) (fun q4 => (.exit 0, ⟨[(0, .ptr 8000101 0), (3, I q4)], [(8000101, .box 95 [S u1, .sl 8000102 0 u4.length, .sl 8000103 0 u5.length, .nptr u2 8000101 3, .sl 8000104 0 u6.length, B u3]), (8000102, .row 89 8 0 (F c_TNode u4)), (8000103, .row 168 2 0 (F c_TOpen_ u5)), (8000104, .row 5 1 0 (F cU u6))], []⟩)) [(8000101, 8000101), (8000102, 8000102), (8000103, 8000103), (8000104, 8000104)] hB h (fun y1 t h => ?_) (fun q4 h => ?_)
  · unfold parse_reader_blanks_s8_b1 at h
    refine k_seq ?_
    refine k_seq ?_
    refine k_reg ?_
    refine l_move ?_
    refine l_move ?_
    refine l_nilCheck ?_
    refine l_fieldAddr ?_
    refine l_load ?_
    refine l_lens ?_
    refine l_cmp ?_
    refine l_move ?_
    refine l_split h (fun _ h => ?_) (fun _ h => ?_)
    · refine l_on ?_
      refine l_move ?_
      refine l_on ?_
      refine l_nilCheck ?_
      refine l_on ?_
      refine l_fieldAddr ?_
      refine l_on ?_
      refine l_load ?_
      refine l_on ?_
      refine l_move ?_
      refine l_on ?_
      refine l_ats h (fun v2 _ h => ?_)
      refine l_on ?_
      refine l_call h (fun _ => name_Blank_ok) (fun v3 _ h => ?_)
      refine l_pick_true ?_
      refine k_nil ?_
      refine f_t ?_
      refine k_if h (fun _ h => ?_) (fun _ h => ?_)
      · refine k_skip ?_
        refine f_t ?_
        refine k_block ?_
        refine k_reg ?_
        refine l_move ?_
        refine l_addw ?_
        refine l_assign ?_
        refine k_nil ?_
        refine f_b ?_
        exact k_next [(8000101, 8000101), (8000102, 8000102), (8000103, 8000103), (8000104, 8000104)] hB h
      refine k_exit ?_
      refine f_te ?_
      exact k_brk [(8000101, 8000101), (8000102, 8000102), (8000103, 8000103), (8000104, 8000104)] hB h
    refine l_off ?_
    refine l_off ?_
    refine l_off ?_
    refine l_off ?_
    refine l_off ?_
    refine l_off ?_
    refine l_off ?_
    refine l_pick_false ?_
    refine k_nil ?_
    refine f_t ?_
    refine k_f ?_
    refine k_exit ?_
    refine f_te ?_
    exact k_brk [(8000101, 8000101), (8000102, 8000102), (8000103, 8000103), (8000104, 8000104)] hB h
  refine f_be ?_
  refine f_t ?_
  refine k_seq ?_
  refine k_reg ?_
  refine l_move ?_
  refine l_move ?_
  refine l_nilCheck ?_
  refine l_fieldAddr ?_
  refine l_load ?_
  refine l_move ?_
  refine l_subs h (fun v5 _ h => ?_)
  refine l_nilCheck ?_
  refine l_fieldAddr ?_
  refine l_store_box ?_
  refine k_nil ?_
  refine f_t ?_
  refine k_seq ?_
  refine k_reg ?_
  refine l_move ?_
  refine l_cmp ?_
  refine l_assign ?_
  refine k_nil ?_
  refine f_t ?_
  refine k_retc ?_
  apply k_ret [(8000101, 8000101), (8000102, 8000102), (8000103, 8000103), (8000104, 8000104)] hB h
theorem parse_reader_declaration_s7_ok {u1 : Str} {u2 : Bool} {u3 : Bool} {u4 : (List TNode)} {u5 : (List TOpen_)} {u6 : (List UInt8)} {r : Bool × Str} (h : parse_reader_declaration_s7 u1 u2 u3 u4 u5 u6 = some r) : XSpec Tryz.prog 52 [.ptr 7000101 0] [(7000101, .box 95 [S u1, .sl 7000102 0 u4.length, .sl 7000103 0 u5.length, .nptr u2 7000101 3, .sl 7000104 0 u6.length, B u3]), (7000102, .row 89 8 0 (F c_TNode u4)), (7000103, .row 168 2 0 (F c_TOpen_ u5)), (7000104, .row 5 1 0 (F cU u6))] (B r.1) [(7000101, .box 95 [S r.2, .sl 7000102 0 u4.length, .sl 7000103 0 u5.length, .nptr u2 7000101 3, .sl 7000104 0 u6.length, B u3]), (7000102, .row 89 8 0 (F c_TNode u4)), (7000103, .row 168 2 0 (F c_TOpen_ u5)), (7000104, .row 5 1 0 (F cU u6))] [] := by
  unfold parse_reader_declaration_s7 at h
  refine X_of_run Tryz.hU Tryz.func52 (fun _ _ _ hB => ?_)
  refine k_seq ?_
  refine k_reg ?_
  refine l_assign ?_
  refine k_nil ?_
  refine f_t ?_
  refine k_seq ?_
  refine k_seq ?_
  refine k_cut (fun q4 => (.normal, ⟨[(0, .ptr 7000101 0), (26, B q4)], [(7000101, .box 95 [S u1, .sl 7000102 0 u4.length, .sl 7000103 0 u5.length, .nptr u2 7000101 3, .sl 7000104 0 u6.length, B u3]), (7000102, .row 89 8 0 (F c_TNode u4)), (7000103, .row 168 2 0 (F c_TOpen_ u5)), (7000104, .row 5 1 0 (F cU u6))], []⟩)) h (fun t h => ?_) (fun q4 h => ?_)
  · refine k_reg ?_
    refine l_move ?_
    refine l_nilCheck ?_
    refine l_fieldAddr ?_
    refine l_load ?_
    refine l_lens ?_
    refine l_cmp ?_
    refine l_move ?_
    refine l_split h (fun _ h => ?_) (fun _ h => ?_)
    · refine l_off ?_
      refine l_off ?_
      refine l_off ?_
      refine l_off ?_
      refine l_off ?_
      refine l_off ?_
      refine l_pick_true ?_
      refine l_move ?_
      refine l_off ?_
      refine l_off ?_
      refine l_off ?_
      refine l_off ?_
      refine l_off ?_
      refine l_off ?_
      refine l_off ?_
      refine l_pick_true ?_
      refine k_nil ?_
      exact k_out [(7000101, 7000101), (7000102, 7000102), (7000103, 7000103), (7000104, 7000104)] hB h
    refine l_on ?_
    refine l_move ?_
    refine l_on ?_
    refine l_nilCheck ?_
    refine l_on ?_
    refine l_fieldAddr ?_
    refine l_on ?_
    refine l_load ?_
    refine l_on ?_
    refine l_subs h (fun v1 _ h => ?_)
    refine l_on ?_
    refine l_sne ?_
    refine l_pick_false ?_
    refine l_move ?_
    refine l_split h (fun _ h => ?_) (fun _ h => ?_)
    · refine l_off ?_
      refine l_off ?_
      refine l_off ?_
      refine l_off ?_
      refine l_off ?_
      refine l_off ?_
      refine l_off ?_
      refine l_pick_true ?_
      refine k_nil ?_
      exact k_out [(7000101, 7000101), (7000102, 7000102), (7000103, 7000103), (7000104, 7000104)] hB h
    refine l_on ?_
    refine l_move ?_
    refine l_on ?_
    refine l_nilCheck ?_
    refine l_on ?_
    refine l_fieldAddr ?_
    refine l_on ?_
    refine l_load ?_
    refine l_on ?_
    refine l_ats h (fun v2 _ h => ?_)
    refine l_on ?_
    refine l_call h (fun _ => name_Blank_ok) (fun v3 _ h => ?_)
    refine l_on ?_
    refine l_un ?_
    refine l_pick_false ?_
    refine k_nil ?_
    exact k_out [(7000101, 7000101), (7000102, 7000102), (7000103, 7000103), (7000104, 7000104)] hB h
  refine f_t ?_
  refine k_if h (fun _ h => ?_) (fun _ h => ?_)
  · refine k_seq ?_
    refine k_reg ?_
    refine l_assign ?_
    refine k_nil ?_
    refine f_t ?_
    refine k_retc ?_
    refine f_tr ?_
    apply k_ret [(7000101, 7000101), (7000102, 7000102), (7000103, 7000103), (7000104, 7000104)] hB h
  refine k_skip ?_
  refine f_t ?_
  refine k_seq ?_
  refine k_reg ?_
  refine l_move ?_
  refine l_move ?_
  refine l_nilCheck ?_
  refine l_fieldAddr ?_
  refine l_load ?_
  refine l_subs h (fun v5 _ h => ?_)
  refine l_nilCheck ?_
  refine l_fieldAddr ?_
  refine l_store_box ?_
  refine k_nil ?_
  refine f_t ?_
  refine k_seq ?_
  refine k_reg ?_
  refine l_move ?_
  refine l_nilCheck ?_
  refine l_fieldAddr ?_
  refine l_load ?_
  refine l_assign ?_
  refine k_nil ?_
  refine f_t ?_
  refine k_seq ?_
  refine k_reg ?_
  refine l_move ?_
  refine l_callX [(8000101, 7000101), (8000102, 7000102), (8000103, 7000103), (8000104, 7000104)] [7000101, 7000102, 7000103, 7000104] h (fun _ => parse_reader_blanks_s8_ok) (fun v6 _ h => ?_)
  refine k_nil ?_
  refine f_t ?_
  refine k_seq ?_
  refine k_seq ?_
  refine k_reg ?_
  refine l_move ?_
  refine l_nilCheck ?_
  refine l_fieldAddr ?_
  refine l_load ?_
  refine l_call h (fun _ => strings_HasPrefix_ok) (fun v7 _ h => ?_)
  refine l_un ?_
  refine k_nil ?_
  refine f_t ?_
  refine k_if h (fun _ h => ?_) (fun _ h => ?_)
  · refine k_seq ?_
    refine k_reg ?_
    refine l_assign ?_
    refine k_nil ?_
    refine f_t ?_
    refine k_retc ?_
    refine f_tr ?_
    apply k_ret [(7000101, 7000101), (7000102, 7000102), (7000103, 7000103), (7000104, 7000104)] hB h
  refine k_skip ?_
  refine f_t ?_
  refine k_seq ?_
  refine k_reg ?_
  refine l_move ?_
  refine l_move ?_
  refine l_nilCheck ?_
  refine l_fieldAddr ?_
  refine l_store_box ?_
  refine k_nil ?_
  refine f_t ?_
  refine k_seq ?_
  refine k_seq ?_
  refine k_reg ?_
  refine l_move ?_
  refine l_lit (e := cS) [[49, 46, 48]] ?_
  cases h
theorem parse_reader_take_s10_ok {u1 : Str} {u2 : Str} {u3 : Bool} {u4 : Bool} {u5 : (List TNode)} {u6 : (List TOpen_)} {u7 : (List UInt8)} {r : Bool × Str} (h : parse_reader_take_s10 u1 u2 u3 u4 u5 u6 u7 = some r) : XSpec Tryz.prog 84 [.ptr 10000101 0, S u1] [(10000101, .box 95 [S u2, .sl 10000102 0 u5.length, .sl 10000103 0 u6.length, .nptr u3 10000101 3, .sl 10000104 0 u7.length, B u4]), (10000102, .row 89 8 0 (F c_TNode u5)), (10000103, .row 168 2 0 (F c_TOpen_ u6)), (10000104, .row 5 1 0 (F cU u7))] (B r.1) [(10000101, .box 95 [S r.2, .sl 10000102 0 u5.length, .sl 10000103 0 u6.length, .nptr u3 10000101 3, .sl 10000104 0 u7.length, B u4]), (10000102, .row 89 8 0 (F c_TNode u5)), (10000103, .row 168 2 0 (F c_TOpen_ u6)), (10000104, .row 5 1 0 (F cU u7))] [] := by
  unfold parse_reader_take_s10 at h
  refine X_of_run Tryz.hU Tryz.func84 (fun _ _ _ hB => ?_)
  refine k_seq ?_
  refine k_reg ?_
  refine l_assign ?_
  refine k_nil ?_
  refine f_t ?_
  refine k_seq ?_
  refine k_reg ?_
  refine l_move ?_
  refine l_nilCheck ?_
  refine l_fieldAddr ?_
  refine l_load ?_
  refine l_move ?_
  refine l_call h (fun _ => strings_CutPrefix_ok) (fun v1 _ h => ?_)
  refine l_move ?_
  refine l_extract ?_
  refine l_extract ?_
  refine l_assign ?_
  refine l_assign ?_
  refine k_nil ?_
  refine f_t ?_
  refine k_seq ?_
  refine k_seq ?_
  refine k_reg ?_
  refine l_move ?_
  refine k_nil ?_
  refine f_t ?_
  refine k_if h (fun _ h => ?_) (fun _ h => ?_)
  · refine k_reg ?_
    refine l_move ?_
    refine l_move ?_
    refine l_nilCheck ?_
    refine l_fieldAddr ?_
    refine l_store_box ?_
    refine k_nil ?_
    refine f_t ?_
    refine k_seq ?_
    refine k_reg ?_
    refine l_move ?_
    refine l_assign ?_
    refine k_nil ?_
    refine f_t ?_
    refine k_retc ?_
    apply k_ret [(10000101, 10000101), (10000102, 10000102), (10000103, 10000103), (10000104, 10000104)] hB h
  refine k_skip ?_
  refine f_t ?_
  refine k_seq ?_
  refine k_reg ?_
  refine l_move ?_
  refine l_assign ?_
  refine k_nil ?_
  refine f_t ?_
  refine k_retc ?_
  apply k_ret [(10000101, 10000101), (10000102, 10000102), (10000103, 10000103), (10000104, 10000104)] hB h
theorem parse_reader_word_s12_ok {u1 : Str} {u2 : Bool} {u3 : Bool} {u4 : (List TNode)} {u5 : (List TOpen_)} {u6 : (List UInt8)} {r : Str × Str} (h : parse_reader_word_s12 u1 u2 u3 u4 u5 u6 = some r) : XSpec Tryz.prog 128 [.ptr 12000101 0] [(12000101, .box 95 [S u1, .sl 12000102 0 u4.length, .sl 12000103 0 u5.length, .nptr u2 12000101 3, .sl 12000104 0 u6.length, B u3]), (12000102, .row 89 8 0 (F c_TNode u4)), (12000103, .row 168 2 0 (F c_TOpen_ u5)), (12000104, .row 5 1 0 (F cU u6))] (S r.1) [(12000101, .box 95 [S r.2, .sl 12000102 0 u4.length, .sl 12000103 0 u5.length, .nptr u2 12000101 3, .sl 12000104 0 u6.length, B u3]), (12000102, .row 89 8 0 (F c_TNode u4)), (12000103, .row 168 2 0 (F c_TOpen_ u5)), (12000104, .row 5 1 0 (F cU u6))] [] := by
  unfold parse_reader_word_s12 at h
  refine X_of_run Tryz.hU Tryz.func128 (fun _ _ _ hB => ?_)
  refine k_seq ?_
  refine k_reg ?_
  refine l_assign ?_
  refine k_nil ?_
  refine f_t ?_
  refine k_seq ?_
  refine k_reg ?_
  refine l_assign ?_
  refine k_nil ?_
  refine f_t ?_
  refine k_seq ?_
  refine k_seq ?_
  refine k_reg ?_
  refine l_move ?_
  refine l_nilCheck ?_
  refine l_fieldAddr ?_
  refine l_load ?_
  refine l_range ?_
  refine k_nil ?_
  refine f_t ?_
  refine k_block ?_
  refine k_loop (fun y1 => ⟨[(0, .ptr 12000101 0), (3, I y1.1), (11, .it 1011)], [(12000101, .box 95 [S u1, .sl 12000102 0 u4.length, .sl 12000103 0 u5.length, .nptr u2 12000101 3, .sl 12000104 0 u6.length, B u3]), (12000102, .row 89 8 0 (F c_TNode u4)), (12000103, .row 168 2 0 (F c_TOpen_ u5)), (12000104, .row 5 1 0 (F cU u6)), (1011, .siter ⟨u1.toArray⟩ y1.2)], []⟩) (fun q3 => (.exit 0, ⟨[(0, .ptr 12000101 0), (3, I q3)], [(12000101, .box 95 [S u1, .sl 12000102 0 u4.length, .sl 12000103 0 u5.length, .nptr u2 12000101 3, .sl 12000104 0 u6.length, B u3]), (12000102, .row 89 8 0 (F c_TNode u4)), (12000103, .row 168 2 0 (F c_TOpen_ u5)), (12000104, .row 5 1 0 (F cU u6))], []⟩)) [(12000101, 12000101), (12000102, 12000102), (12000103, 12000103), (12000104, 12000104), (1011, 1011)] hB h (fun y1 t h => ?_) (fun q3 h => ?_)
  · unfold parse_reader_word_s12_b1 at h
    refine k_seq ?_
    refine k_reg ?_
    refine l_next h (fun _ h => ?_) (fun _ h => ?_)
    · refine l_extract ?_
      refine k_nil ?_
      refine f_t ?_
      refine k_seq ?_
      refine k_t ?_
      refine k_skip ?_
      refine f_t ?_
      refine k_block ?_
      refine k_seq ?_
      refine k_reg ?_
      refine l_extract ?_
      refine l_extract ?_
      refine l_assign ?_
      refine l_assign ?_
      refine k_nil ?_
      refine f_t ?_
      refine k_seq ?_
      refine k_seq ?_
      refine k_reg ?_
      refine l_move ?_
      refine l_cmp ?_
      refine l_move ?_
      refine l_split h (fun _ h => ?_) (fun _ h => ?_)
      · refine l_on ?_
        refine l_move ?_
        refine l_on ?_
        refine l_call h (fun _ => name_Stands_ok) (fun v2 _ h => ?_)
        refine l_on ?_
        refine l_un ?_
        refine l_pick_true ?_
        refine k_nil ?_
        refine f_t ?_
        refine k_if h (fun _ h => ?_) (fun _ h => ?_)
        · refine k_exit ?_
          refine f_te ?_
          refine f_bo ?_
          exact k_brk [(12000101, 12000101), (12000102, 12000102), (12000103, 12000103), (12000104, 12000104)] hB h
        refine k_skip ?_
        refine f_t ?_
        refine k_reg ?_
        refine l_move ?_
        refine l_move ?_
        refine l_istr ?_
        refine l_lens ?_
        refine l_addw ?_
        refine l_assign ?_
        refine k_nil ?_
        refine f_b ?_
        exact k_next [(12000101, 12000101), (12000102, 12000102), (12000103, 12000103), (12000104, 12000104), (1011, 1011)] hB h
      refine l_off ?_
      refine l_off ?_
      refine l_off ?_
      refine l_pick_false ?_
      refine k_nil ?_
      refine f_t ?_
      refine k_f ?_
      refine k_skip ?_
      refine f_t ?_
      refine k_reg ?_
      refine l_move ?_
      refine l_move ?_
      refine l_istr ?_
      refine l_lens ?_
      refine l_addw ?_
      refine l_assign ?_
      refine k_nil ?_
      refine f_b ?_
      exact k_next [(12000101, 12000101), (12000102, 12000102), (12000103, 12000103), (12000104, 12000104), (1011, 1011)] hB h
    refine l_extract ?_
    refine k_nil ?_
    refine f_t ?_
    refine k_seq ?_
    refine k_f ?_
    refine k_exit ?_
    refine f_te ?_
    exact k_brk [(12000101, 12000101), (12000102, 12000102), (12000103, 12000103), (12000104, 12000104)] hB h
  refine f_be ?_
  refine f_t ?_
  refine k_seq ?_
  refine k_reg ?_
  refine l_move ?_
  refine l_nilCheck ?_
  refine l_fieldAddr ?_
  refine l_load ?_
  refine l_move ?_
  refine l_subs h (fun v4 _ h => ?_)
  refine l_assign ?_
  refine k_nil ?_
  refine f_t ?_
  refine k_seq ?_
  refine k_reg ?_
  refine l_move ?_
  refine l_move ?_
  refine l_nilCheck ?_
  refine l_fieldAddr ?_
  refine l_load ?_
  refine l_move ?_
  refine l_subs h (fun v5 _ h => ?_)
  refine l_nilCheck ?_
  refine l_fieldAddr ?_
  refine l_store_box ?_
  refine k_nil ?_
  refine f_t ?_
  refine k_seq ?_
  refine k_reg ?_
  refine l_move ?_
  refine l_assign ?_
  refine k_nil ?_
  refine f_t ?_
  refine k_retc ?_
  apply k_ret [(12000101, 12000101), (12000102, 12000102), (12000103, 12000103), (12000104, 12000104)] hB h
theorem parse_reader_means_s14_ok {u1 : Str} {u2 : Str} {u3 : Bool} {u4 : Bool} {u5 : (List TNode)} {u6 : (List TOpen_)} {u7 : (List UInt8)} {r : Str} (h : parse_reader_means_s14 u1 u2 u3 u4 u5 u6 u7 = some r) : XSpec Tryz.prog 172 [.ptr 14000101 0, S u1, .pl (.slice none 0 0)] [(14000101, .box 95 [S u2, .sl 14000102 0 u5.length, .sl 14000103 0 u6.length, .nptr u3 14000101 3, .sl 14000104 0 u7.length, B u4]), (14000102, .row 89 8 0 (F c_TNode u5)), (14000103, .row 168 2 0 (F c_TOpen_ u6)), (14000104, .row 5 1 0 (F cU u7))] (S r) [(14000101, .box 95 [S u2, .sl 14000102 0 u5.length, .sl 14000103 0 u6.length, .nptr u3 14000101 3, .sl 14000104 0 u7.length, B u4]), (14000102, .row 89 8 0 (F c_TNode u5)), (14000103, .row 168 2 0 (F c_TOpen_ u6)), (14000104, .row 5 1 0 (F cU u7))] [] := by
  unfold parse_reader_means_s14 at h
  refine X_of_run Tryz.hU Tryz.func172 (fun _ _ _ hB => ?_)
  refine k_seq ?_
  refine k_reg ?_
  refine l_assign ?_
  refine k_nil ?_
  refine f_t ?_
  refine k_seq ?_
  refine k_seq ?_
  refine k_reg ?_
  refine l_move ?_
  refine l_seq ?_
  refine k_nil ?_
  refine f_t ?_
  refine k_if h (fun _ h => ?_) (fun _ h => ?_)
  · refine k_seq ?_
    refine k_reg ?_
    refine l_assign ?_
    refine k_nil ?_
    refine f_t ?_
    refine k_retc ?_
    refine f_tr ?_
    apply k_ret [(14000101, 14000101), (14000102, 14000102), (14000103, 14000103), (14000104, 14000104)] hB h
  refine k_skip ?_
  refine f_t ?_
  refine k_seq ?_
  refine k_seq ?_
  refine k_reg ?_
  refine l_move ?_
  refine l_nilCheck ?_
  refine l_fieldAddr ?_
  refine l_load ?_
  refine l_len ?_
  refine l_assign ?_
  refine k_nil ?_
  refine f_t ?_
  refine k_block ?_
  refine k_loop (fun y1 => ⟨[(0, .ptr 14000101 0), (1, S u1), (2, .pl (.slice none 0 0)), (7, I y1)], [(14000101, .box 95 [S u2, .sl 14000102 0 u5.length, .sl 14000103 0 u6.length, .nptr u3 14000101 3, .sl 14000104 0 u7.length, B u4]), (14000102, .row 89 8 0 (F c_TNode u5)), (14000103, .row 168 2 0 (F c_TOpen_ u6)), (14000104, .row 5 1 0 (F cU u7))], []⟩) (Sum.elim (fun q10 => (.ret, ⟨[(6, S q10)], [(14000101, .box 95 [S u2, .sl 14000102 0 u5.length, .sl 14000103 0 u6.length, .nptr u3 14000101 3, .sl 14000104 0 u7.length, B u4]), (14000102, .row 89 8 0 (F c_TNode u5)), (14000103, .row 168 2 0 (F c_TOpen_ u6)), (14000104, .row 5 1 0 (F cU u7))], []⟩)) (fun q11 => (.exit 0, ⟨[], [(14000101, .box 95 [S u2, .sl 14000102 0 u5.length, .sl 14000103 0 u6.length, .nptr u3 14000101 3, .sl 14000104 0 u7.length, B u4]), (14000102, .row 89 8 0 (F c_TNode u5)), (14000103, .row 168 2 0 (F c_TOpen_ u6)), (14000104, .row 5 1 0 (F cU u7))], []⟩))) [(14000101, 14000101), (14000102, 14000102), (14000103, 14000103), (14000104, 14000104)] hB h (fun y1 t h => ?_) (fun q h => ?_)
  · unfold parse_reader_means_s14_b1 at h
    refine k_seq ?_
    refine k_seq ?_
    refine k_reg ?_
    refine l_move ?_
    refine l_cmp ?_
    refine k_nil ?_
    refine f_t ?_
    refine k_if h (fun _ h => ?_) (fun _ h => ?_)
    · refine k_skip ?_
      refine f_t ?_
      refine k_seq ?_
      refine k_block ?_
      refine k_seq ?_
      refine k_reg ?_
      refine l_move ?_
      refine l_assign ?_
      refine k_nil ?_
      refine f_t ?_
      refine k_seq ?_
      refine k_seq ?_
      refine k_reg ?_
      refine l_move ?_
      refine l_move ?_
      refine l_nilCheck ?_
      refine l_fieldAddr ?_
      refine l_load ?_
      refine l_len ?_
      refine l_cmp ?_
      refine k_nil ?_
      refine f_t ?_
      refine k_if h (fun _ h => ?_) (fun _ h => ?_)
      · refine k_mix [] (.q 0 (.q 1 (.q 2 (.q 3 (.q 4 (.q 5 (.q 6 (.q 7 (.q 8 (.q 9 (.q 10 (.q 11 (.q 12 (.q 13 (.q 14 (.q 15 (.done))))))))))))))))) hm ?_
        refine gq ?_
        refine n_move ?_
        refine gq ?_
        refine n_nilCheck ?_
        refine gq ?_
        refine n_fieldAddr ?_
        refine gq ?_
        refine n_load ?_
        refine gq ?_
        refine n_move ?_
        refine gq ?_
        refine n_nilCheck ?_
        refine gq ?_
        refine n_fieldAddr ?_
        refine gq ?_
        refine n_load ?_
        refine gq ?_
        refine n_move ?_
        refine gq ?_
        refine n_ato h (fun v2 ev2 h => ?_)
        refine gq ?_
        refine n_fieldAddr ?_
        refine gq ?_
        refine n_ldr0 ev2 ?_
        refine gq ?_
        refine n_ato h (fun v3 ev3 h => ?_)
        refine gq ?_
        refine n_fieldAddr ?_
        refine gq ?_
        refine n_ldr ev3 ?_
        refine gq ?_
        refine n_assign ?_
        refine m_nil ?_
        refine f_t ?_
        refine k_seq ?_
        refine k_reg ?_
        refine l_move ?_
        refine l_len ?_
        refine l_move ?_
        refine k_nil ?_
        refine f_t ?_
        refine k_block ?_
        refine k_loop (fun y4 => ⟨[(0, .ptr 14000101 0), (1, S u1), (2, .pl (.slice none 0 0)), (7, I y1), (45, .vs v3.Decls.length (F c_TDecl v3.Decls)), (46, I (v3.Decls.length : Int)), (47, I y4)], [(14000101, .box 95 [S u2, .sl 14000102 0 u5.length, .sl 14000103 0 u6.length, .nptr u3 14000101 3, .sl 14000104 0 u7.length, B u4]), (14000102, .row 89 8 0 (F c_TNode u5)), (14000103, .row 168 2 0 (F c_TOpen_ u6)), (14000104, .row 5 1 0 (F cU u7))], []⟩) (Sum.elim (fun q6 => (.ret, ⟨[(6, S q6)], [(14000101, .box 95 [S u2, .sl 14000102 0 u5.length, .sl 14000103 0 u6.length, .nptr u3 14000101 3, .sl 14000104 0 u7.length, B u4]), (14000102, .row 89 8 0 (F c_TNode u5)), (14000103, .row 168 2 0 (F c_TOpen_ u6)), (14000104, .row 5 1 0 (F cU u7))], []⟩)) (fun q7 => (.exit 2, ⟨[(0, .ptr 14000101 0), (1, S u1), (2, .pl (.slice none 0 0)), (7, I y1)], [(14000101, .box 95 [S u2, .sl 14000102 0 u5.length, .sl 14000103 0 u6.length, .nptr u3 14000101 3, .sl 14000104 0 u7.length, B u4]), (14000102, .row 89 8 0 (F c_TNode u5)), (14000103, .row 168 2 0 (F c_TOpen_ u6)), (14000104, .row 5 1 0 (F cU u7))], []⟩))) [(14000101, 14000101), (14000102, 14000102), (14000103, 14000103), (14000104, 14000104)] hB h (fun y4 t h => ?_) (fun q h => ?_)
        · unfold parse_reader_means_s14_b2 at h
          refine k_seq ?_
          refine k_reg ?_
          refine l_cmp ?_
          refine k_nil ?_
          refine f_t ?_
          refine k_seq ?_
          refine k_if h (fun _ h => ?_) (fun _ h => ?_)
          · refine k_skip ?_
            refine f_t ?_
            refine k_seq ?_
            refine k_block ?_
            refine k_seq ?_
            refine k_reg ?_
            refine l_at h (fun v5 _ h => ?_)
            refine l_load_agg ?_
            refine l_alloc ?_
            refine l_store_box ?_
            refine k_nil ?_
            refine f_t ?_
            refine k_seq ?_
            refine k_reg ?_
            refine l_fieldAddr ?_
            refine l_load ?_
            refine l_move ?_
            refine l_seq ?_
            refine k_nil ?_
            refine f_t ?_
            refine k_if h (fun _ h => ?_) (fun _ h => ?_)
            · refine k_seq ?_
              refine k_reg ?_
              refine l_fieldAddr ?_
              refine l_load ?_
              refine l_assign ?_
              refine k_nil ?_
              refine f_t ?_
              refine k_retc ?_
              refine f_br ?_
              refine f_tr ?_
              exact k_brk [(14000101, 14000101), (14000102, 14000102), (14000103, 14000103), (14000104, 14000104)] hB h
            refine k_skip ?_
            refine f_b ?_
            refine f_t ?_
            refine k_reg ?_
            refine l_addw ?_
            refine l_move ?_
            refine k_nil ?_
            exact k_next [(14000101, 14000101), (14000102, 14000102), (14000103, 14000103), (14000104, 14000104)] hB h
          refine k_exit ?_
          refine f_te ?_
          exact k_brk [(14000101, 14000101), (14000102, 14000102), (14000103, 14000103), (14000104, 14000104)] hB h
        rcases q with q6 | q7
        · dsimp only [Sum.elim] at h ⊢
          refine f_br ?_
          refine f_br ?_
          refine f_tr ?_
          exact k_brk [(14000101, 14000101), (14000102, 14000102), (14000103, 14000103), (14000104, 14000104)] hB h
        dsimp only [Sum.elim] at h ⊢
        refine f_be ?_
        refine f_b ?_
        refine f_t ?_
        refine k_reg ?_
        refine l_move ?_
        refine l_subw ?_
        refine l_assign ?_
        refine k_nil ?_
        exact k_next [(14000101, 14000101), (14000102, 14000102), (14000103, 14000103), (14000104, 14000104)] hB h
      refine k_skip ?_
      refine f_t ?_
      refine k_seq ?_
      refine k_reg ?_
      refine l_move ?_
      refine l_lenn ?_
      refine l_move ?_
      refine k_nil ?_
      refine f_t ?_
      refine k_block ?_
      refine k_loop (fun y8 => ⟨[(0, .ptr 14000101 0), (1, S u1), (2, .pl (.slice none 0 0)), (7, I y1), (45, .pl (.slice none 0 0)), (46, I 0), (47, I 0)], [(14000101, .box 95 [S u2, .sl 14000102 0 u5.length, .sl 14000103 0 u6.length, .nptr u3 14000101 3, .sl 14000104 0 u7.length, B u4]), (14000102, .row 89 8 0 (F c_TNode u5)), (14000103, .row 168 2 0 (F c_TOpen_ u6)), (14000104, .row 5 1 0 (F cU u7))], []⟩) (fun q9 => (.exit 2, ⟨[(0, .ptr 14000101 0), (1, S u1), (2, .pl (.slice none 0 0)), (7, I y1)], [(14000101, .box 95 [S u2, .sl 14000102 0 u5.length, .sl 14000103 0 u6.length, .nptr u3 14000101 3, .sl 14000104 0 u7.length, B u4]), (14000102, .row 89 8 0 (F c_TNode u5)), (14000103, .row 168 2 0 (F c_TOpen_ u6)), (14000104, .row 5 1 0 (F cU u7))], []⟩)) [(14000101, 14000101), (14000102, 14000102), (14000103, 14000103), (14000104, 14000104)] hB h (fun y8 t h => ?_) (fun q9 h => ?_)
      · unfold parse_reader_means_s14_b3 at h
        refine k_seq ?_
        refine k_reg ?_
        refine l_cmp ?_
        refine k_nil ?_
        refine f_t ?_
        refine k_seq ?_
        refine k_if h (fun _ h => ?_) (fun _ h => ?_)
        · refine k_skip ?_
          refine f_t ?_
          refine k_seq ?_
          refine k_block ?_
          refine k_seq ?_
          refine k_reg ?_
          cases h
        refine k_exit ?_
        refine f_te ?_
        exact k_brk [(14000101, 14000101), (14000102, 14000102), (14000103, 14000103), (14000104, 14000104)] hB h
      refine f_be ?_
      refine f_b ?_
      refine f_t ?_
      refine k_reg ?_
      refine l_move ?_
      refine l_subw ?_
      refine l_assign ?_
      refine k_nil ?_
      exact k_next [(14000101, 14000101), (14000102, 14000102), (14000103, 14000103), (14000104, 14000104)] hB h
    refine k_exit ?_
    refine f_te ?_
    exact k_brk [(14000101, 14000101), (14000102, 14000102), (14000103, 14000103), (14000104, 14000104)] hB h
  rcases q with q10 | q11
  · dsimp only [Sum.elim] at h ⊢
    refine f_br ?_
    refine f_tr ?_
    apply k_ret [(14000101, 14000101), (14000102, 14000102), (14000103, 14000103), (14000104, 14000104)] hB h
  dsimp only [Sum.elim] at h ⊢
  refine f_be ?_
  refine f_t ?_
  refine k_seq ?_
  refine k_reg ?_
  refine l_assign ?_
  refine k_nil ?_
  refine f_t ?_
  refine k_retc ?_
  apply k_ret [(14000101, 14000101), (14000102, 14000102), (14000103, 14000103), (14000104, 14000104)] hB h
theorem strings_Builder_Len_s17_ok {u1 : Str} {u2 : Bool} {u3 : Bool} {u4 : (List TNode)} {u5 : (List TOpen_)} {u6 : (List UInt8)} {r : Int} (h : strings_Builder_Len_s17 u1 u2 u3 u4 u5 u6 = some r) : XSpec Tryz.prog 168 [.ptr 17000101 3] [(17000101, .box 95 [S u1, .sl 17000102 0 u4.length, .sl 17000103 0 u5.length, .nptr u2 17000101 3, .sl 17000104 0 u6.length, B u3]), (17000102, .row 89 8 0 (F c_TNode u4)), (17000103, .row 168 2 0 (F c_TOpen_ u5)), (17000104, .row 5 1 0 (F cU u6))] (I r) [(17000101, .box 95 [S u1, .sl 17000102 0 u4.length, .sl 17000103 0 u5.length, .nptr u2 17000101 3, .sl 17000104 0 u6.length, B u3]), (17000102, .row 89 8 0 (F c_TNode u4)), (17000103, .row 168 2 0 (F c_TOpen_ u5)), (17000104, .row 5 1 0 (F cU u6))] [] := by
  unfold strings_Builder_Len_s17 at h
  refine X_of_run Tryz.hU Tryz.func168 (fun _ _ _ hB => ?_)
  refine k_seq ?_
  refine k_reg ?_
  refine l_assign ?_
  refine k_nil ?_
  refine f_t ?_
  refine k_seq ?_
  refine k_reg ?_
  refine l_move ?_
  refine l_nilCheck ?_
  refine l_fieldAddr ?_
  refine l_load ?_
  refine l_len ?_
  refine l_assign ?_
  refine k_nil ?_
  refine f_t ?_
  refine k_retc ?_
  apply k_ret [(17000101, 17000101), (17000102, 17000102), (17000103, 17000103), (17000104, 17000104)] hB h
theorem parse_reader_parent_s18_ok {u1 : Str} {u2 : Bool} {u3 : Bool} {u4 : (List TNode)} {u5 : (List TOpen_)} {u6 : (List UInt8)} {r : Int} (h : parse_reader_parent_s18 u1 u2 u3 u4 u5 u6 = some r) : XSpec Tryz.prog 127 [.ptr 18000101 0] [(18000101, .box 95 [S u1, .sl 18000102 0 u4.length, .sl 18000103 0 u5.length, .nptr u2 18000101 3, .sl 18000104 0 u6.length, B u3]), (18000102, .row 89 8 0 (F c_TNode u4)), (18000103, .row 168 2 0 (F c_TOpen_ u5)), (18000104, .row 5 1 0 (F cU u6))] (I r) [(18000101, .box 95 [S u1, .sl 18000102 0 u4.length, .sl 18000103 0 u5.length, .nptr u2 18000101 3, .sl 18000104 0 u6.length, B u3]), (18000102, .row 89 8 0 (F c_TNode u4)), (18000103, .row 168 2 0 (F c_TOpen_ u5)), (18000104, .row 5 1 0 (F cU u6))] [] := by
  unfold parse_reader_parent_s18 at h
  refine X_of_run Tryz.hU Tryz.func127 (fun _ _ _ hB => ?_)
  refine k_seq ?_
  refine k_reg ?_
  refine l_assign ?_
  refine k_nil ?_
  refine f_t ?_
  refine k_seq ?_
  refine k_seq ?_
  refine k_reg ?_
  refine l_move ?_
  refine l_nilCheck ?_
  refine l_fieldAddr ?_
  refine l_load ?_
  refine l_len ?_
  refine l_cmp ?_
  refine k_nil ?_
  refine f_t ?_
  refine k_if h (fun _ h => ?_) (fun _ h => ?_)
  · refine k_seq ?_
    refine k_reg ?_
    refine l_assign ?_
    refine k_nil ?_
    refine f_t ?_
    refine k_retc ?_
    refine f_tr ?_
    apply k_ret [(18000101, 18000101), (18000102, 18000102), (18000103, 18000103), (18000104, 18000104)] hB h
  refine k_skip ?_
  refine f_t ?_
  refine k_seq ?_
  refine k_mix [] (.q 0 (.q 1 (.q 2 (.q 3 (.q 4 (.q 5 (.q 6 (.q 7 (.q 8 (.q 9 (.q 10 (.q 11 (.q 12 (.q 13 (.done))))))))))))))) hm ?_
  refine gq ?_
  refine n_move ?_
  refine gq ?_
  refine n_nilCheck ?_
  refine gq ?_
  refine n_fieldAddr ?_
  refine gq ?_
  refine n_load ?_
  refine gq ?_
  refine n_move ?_
  refine gq ?_
  refine n_nilCheck ?_
  refine gq ?_
  refine n_fieldAddr ?_
  refine gq ?_
  refine n_load ?_
  refine gq ?_
  refine n_len ?_
  refine gq ?_
  refine n_subw ?_
  refine gq ?_
  refine n_ato h (fun v1 ev1 h => ?_)
  refine gq ?_
  refine n_fieldAddr ?_
  refine gq ?_
  refine n_ldr0 ev1 ?_
  refine gq ?_
  refine n_assign ?_
  refine m_nil ?_
  refine f_t ?_
  refine k_retc ?_
  apply k_ret [(18000101, 18000101), (18000102, 18000102), (18000103, 18000103), (18000104, 18000104)] hB h
theorem strings_Builder_String_s19_ok {u1 : Str} {u2 : Bool} {u3 : Bool} {u4 : (List TNode)} {u5 : (List TOpen_)} {u6 : (List UInt8)} {r : Str} (h : strings_Builder_String_s19 u1 u2 u3 u4 u5 u6 = some r) : XSpec Tryz.prog 71 [.ptr 19000101 3] [(19000101, .box 95 [S u1, .sl 19000102 0 u4.length, .sl 19000103 0 u5.length, .nptr u2 19000101 3, .sl 19000104 0 u6.length, B u3]), (19000102, .row 89 8 0 (F c_TNode u4)), (19000103, .row 168 2 0 (F c_TOpen_ u5)), (19000104, .row 5 1 0 (F cU u6))] (S r) [(19000101, .box 95 [S u1, .sl 19000102 0 u4.length, .sl 19000103 0 u5.length, .nptr u2 19000101 3, .junk, B u3]), (19000102, .row 89 8 0 (F c_TNode u4)), (19000103, .row 168 2 0 (F c_TOpen_ u5))] [19000104] := by
  unfold strings_Builder_String_s19 at h
  refine X_of_run Tryz.hU Tryz.func71 (fun _ _ _ hB => ?_)
  refine k_seq ?_
  refine k_reg ?_
  refine l_assign ?_
  refine k_nil ?_
  refine f_t ?_
  refine k_seq ?_
  refine k_mix [10] (.q 0 (.q 1 (.q 2 (.q 3 (.q 5 (.q 6 (.q 7 (.q 8 (.q 9 (.e 4 (.e 10 (.q 11 (.done))))))))))))) hm ?_
  refine gq ?_
  refine n_move ?_
  refine gq ?_
  refine n_nilCheck ?_
  refine gq ?_
  refine n_fieldAddr ?_
  refine gq ?_
  refine n_load ?_
  refine gq ?_
  refine n_move ?_
  refine gq ?_
  refine n_nilCheck ?_
  refine gq ?_
  refine n_fieldAddr ?_
  refine gq ?_
  refine n_load ?_
  refine gq ?_
  refine n_len ?_
  refine ge ?_
  refine n_usd ?_
  refine ge ?_
  refine n_ustr h (fun v1 _ h => ?_)
  refine gq ?_
  refine n_assign ?_
  refine m_nil ?_
  refine f_t ?_
  refine k_retc ?_
  apply k_ret [(19000101, 19000101), (19000102, 19000102), (19000103, 19000103)] hB h
theorem strings_Builder_Reset_s20_ok {u1 : Str} {u2 : Bool} {u3 : Bool} {u4 : (List TNode)} {u5 : (List TOpen_)} {r : Unit} (h : strings_Builder_Reset_s20 u1 u2 u3 u4 u5 = some r) : XSpec Tryz.prog 169 [.ptr 20000101 3] [(20000101, .box 95 [S u1, .sl 20000102 0 u4.length, .sl 20000103 0 u5.length, .nptr u2 20000101 3, .junk, B u3]), (20000102, .row 89 8 0 (F c_TNode u4)), (20000103, .row 168 2 0 (F c_TOpen_ u5))] (.tup []) [(20000101, .box 95 [S u1, .sl 20000102 0 u4.length, .sl 20000103 0 u5.length, .nptr true 20000101 3, .pl (.slice none 0 0), B u3]), (20000102, .row 89 8 0 (F c_TNode u4)), (20000103, .row 168 2 0 (F c_TOpen_ u5))] [] := by
  unfold strings_Builder_Reset_s20 at h
  refine X_of_run Tryz.hU Tryz.func169 (fun _ _ _ hB => ?_)
  refine k_seq ?_
  refine k_reg ?_
  refine l_move ?_
  refine l_nilCheck ?_
  refine l_fieldAddr ?_
  refine l_store_box ?_
  refine k_nil ?_
  refine f_t ?_
  refine k_reg ?_
  refine l_move ?_
  refine l_nilCheck ?_
  refine l_fieldAddr ?_
  refine l_store_box ?_
  refine k_nil ?_
  refine f_npcell (b := 20000101) (j := 3) 20000101 3 ?_
  apply k_ret [(20000101, 20000101), (20000102, 20000102), (20000103, 20000103)] hB h
theorem parse_reader_flush_s16_ok {u1 : Str} {u2 : Bool} {u3 : Bool} {u4 : (List TNode)} {u5 : (List TOpen_)} {u6 : (List UInt8)} {r : Bool × (List TNode) × (List UInt8)} (h : parse_reader_flush_s16 u1 u2 u3 u4 u5 u6 = some r) : XSpec Tryz.prog 126 [.ptr 16000101 0] [(16000101, .box 95 [S u1, .sl 16000102 0 u4.length, .sl 16000103 0 u5.length, .nptr u2 16000101 3, .sl 16000104 0 u6.length, B u3]), (16000102, .row 89 8 0 (F c_TNode u4)), (16000103, .row 168 2 0 (F c_TOpen_ u5)), (16000104, .row 5 1 0 (F cU u6))] (.tup []) [(16000101, .box 95 [S u1, .sl 16000102 0 r.2.1.length, .sl 16000103 0 u5.length, .nptr r.1 16000101 3, .sl 16000151 0 r.2.2.length, B u3]), (16000102, .row 89 8 0 (F c_TNode r.2.1)), (16000103, .row 168 2 0 (F c_TOpen_ u5)), (16000151, .row 5 1 0 (F cU r.2.2))] [16000102, 16000104] := by
  unfold parse_reader_flush_s16 at h
  refine X_of_run Tryz.hU Tryz.func126 (fun _ _ _ hB => ?_)
  refine k_seq ?_
  refine k_reg ?_
  refine l_move ?_
  refine l_nilCheck ?_
  refine l_fieldAddr ?_
  refine l_callX [(17000101, 16000101), (17000102, 16000102), (17000103, 16000103), (17000104, 16000104)] [16000101, 16000102, 16000103, 16000104] h (fun _ => strings_Builder_Len_s17_ok) (fun v1 _ h => ?_)
  refine l_cmp ?_
  refine k_nil ?_
  refine f_t ?_
  refine k_if h (fun _ h => ?_) (fun _ h => ?_)
  · refine k_seq ?_
    refine k_cut (fun q5 => (.normal, ⟨[(0, .ptr 16000101 0)], [(16000101, .box 95 [S u1, .sl 16000102 0 q5.length, .sl 16000103 0 u5.length, .nptr u2 16000101 3, .junk, B u3]), (16000102, .row 89 8 0 (F c_TNode q5)), (16000103, .row 168 2 0 (F c_TOpen_ u5))], [16000104, 16000102]⟩)) h (fun t h => ?_) (fun q5 h => ?_)
    · refine k_mix [6, 10, 13, 16] (.q 5 (.s 0 (.s 1 (.s 2 (.s 3 (.s 7 (.s 8 (.s 9 (.alt 4 (.e 6 (.e 10 (.q 11 (.e 12 (.e 13 (.q 14 (.q 15 (.e 16 (.done))))))))) (.e 6 (.alt 4 (.e 10 (.q 11 (.e 12 (.e 13 (.q 14 (.q 15 (.e 16 (.done)))))))) (.e 10 (.q 4 (.q 11 (.e 12 (.e 13 (.q 14 (.q 15 (.e 16 (.done)))))))))))))))))))) hm ?_
      refine gq ?_
      refine n_move ?_
      refine gs ?_
      refine x_move ?_
      refine gs ?_
      refine x_move ?_
      refine gs ?_
      refine x_nilCheck ?_
      refine gs ?_
      refine x_fieldAddr ?_
      refine gs ?_
      refine x_move ?_
      refine gs ?_
      refine x_nilCheck ?_
      refine gs ?_
      refine x_fieldAddr ?_
      refine m_alt ?_ ?_
      · refine geq ?_
        refine n_load ?_
        refine ge ?_
        refine n_callX [(18000101, 16000101), (18000102, 16000102), (18000103, 16000103), (18000104, 16000104)] [16000101, 16000102, 16000103, 16000104] h (fun _ => parse_reader_parent_s18_ok) (fun v2 _ h => ?_)
        refine ge ?_
        refine n_callX [(19000101, 16000101), (19000102, 16000102), (19000103, 16000103), (19000104, 16000104)] [16000101, 16000102, 16000103, 16000104] h (fun _ => strings_Builder_String_s19_ok) (fun v3 _ h => ?_)
        refine gq ?_
        refine n_build ?_
        refine m_nilt 18 ?_
        refine ge ?_
        refine n_lit (e := c_TNode) [(TNode.mk 2 v2 [] [] [] v3 [] [])] ?_
        refine ge ?_
        refine n_appo h (fun v4 _ h => ?_)
        refine gq ?_
        refine n_nilCheck ?_
        refine gq ?_
        refine n_fieldAddr ?_
        refine ge ?_
        refine n_store_box ?_
        refine m_nil ?_
        exact k_out [(16000101, 16000101), (16000102, 16000102), (16000103, 16000103)] hB h
      refine ge ?_
      refine n_callX [(18000101, 16000101), (18000102, 16000102), (18000103, 16000103), (18000104, 16000104)] [16000101, 16000102, 16000103, 16000104] h (fun _ => parse_reader_parent_s18_ok) (fun v2 _ h => ?_)
      refine m_alt ?_ ?_
      · refine geq ?_
        refine n_load ?_
        refine ge ?_
        refine n_callX [(19000101, 16000101), (19000102, 16000102), (19000103, 16000103), (19000104, 16000104)] [16000101, 16000102, 16000103, 16000104] h (fun _ => strings_Builder_String_s19_ok) (fun v3 _ h => ?_)
        refine gq ?_
        refine n_build ?_
        refine m_nilt 18 ?_
        refine ge ?_
        refine n_lit (e := c_TNode) [(TNode.mk 2 v2 [] [] [] v3 [] [])] ?_
        refine ge ?_
        refine n_appo h (fun v4 _ h => ?_)
        refine gq ?_
        refine n_nilCheck ?_
        refine gq ?_
        refine n_fieldAddr ?_
        refine ge ?_
        refine n_store_box ?_
        refine m_nil ?_
        exact k_out [(16000101, 16000101), (16000102, 16000102), (16000103, 16000103)] hB h
      refine ge ?_
      refine n_callX [(19000101, 16000101), (19000102, 16000102), (19000103, 16000103), (19000104, 16000104)] [16000101, 16000102, 16000103, 16000104] h (fun _ => strings_Builder_String_s19_ok) (fun v3 _ h => ?_)
      refine gq ?_
      refine n_load ?_
      refine gq ?_
      refine n_build ?_
      refine m_nilt 18 ?_
      refine ge ?_
      refine n_lit (e := c_TNode) [(TNode.mk 2 v2 [] [] [] v3 [] [])] ?_
      refine ge ?_
      refine n_appo h (fun v4 _ h => ?_)
      refine gq ?_
      refine n_nilCheck ?_
      refine gq ?_
      refine n_fieldAddr ?_
      refine ge ?_
      refine n_store_box ?_
      refine m_nil ?_
      exact k_out [(16000101, 16000101), (16000102, 16000102), (16000103, 16000103)] hB h
    refine f_t ?_
    refine k_reg ?_
    refine l_move ?_
    refine l_nilCheck ?_
    refine l_fieldAddr ?_
    refine l_callX [(20000101, 16000101), (20000102, 16000102), (20000103, 16000103)] [16000101, 16000102, 16000103] h (fun _ => strings_Builder_Reset_s20_ok) (fun v6 _ h => ?_)
    refine k_nil ?_
    refine f_nilcell (te := 5) (b1 := 16000101) (j := 4) 160004014 1 ?_
    apply k_ret [(16000101, 16000101), (16000102, 16000102), (16000103, 16000103), (160004014, 16000151)] hB h
  refine k_skip ?_
  apply k_ret [(16000101, 16000101), (16000102, 16000102), (16000103, 16000103), (16000104, 16000151)] hB h
theorem parse_reader_put_s15_ok {u1 : Int} {u2 : Int} {u3 : Str} {u4 : Str} {u5 : Str} {u6 : Str} {u7 : Str} {u8 : Bool} {u9 : Bool} {u10 : (List TNode)} {u11 : (List TOpen_)} {u12 : (List UInt8)} {r : Bool × (List TNode) × (List UInt8)} (h : parse_reader_put_s15 u1 u2 u3 u4 u5 u6 u7 u8 u9 u10 u11 u12 = some r) : XSpec Tryz.prog 86 [.ptr 15000101 0, .agg [I u1, I u2, S u3, S u4, S u5, S u6, .pl (.slice none 0 0), .pl (.slice none 0 0)]] [(15000101, .box 95 [S u7, .sl 15000102 0 u10.length, .sl 15000103 0 u11.length, .nptr u8 15000101 3, .sl 15000104 0 u12.length, B u9]), (15000102, .row 89 8 0 (F c_TNode u10)), (15000103, .row 168 2 0 (F c_TOpen_ u11)), (15000104, .row 5 1 0 (F cU u12))] (.tup []) [(15000101, .box 95 [S u7, .sl 15000102 0 r.2.1.length, .sl 15000103 0 u11.length, .nptr r.1 15000101 3, .sl 15000151 0 r.2.2.length, B u9]), (15000102, .row 89 8 0 (F c_TNode r.2.1)), (15000103, .row 168 2 0 (F c_TOpen_ u11)), (15000151, .row 5 1 0 (F cU r.2.2))] [15000102, 15000104] := by
  unfold parse_reader_put_s15 at h
  refine X_of_run Tryz.hU Tryz.func86 (fun _ _ _ hB => ?_)
  refine k_seq ?_
  refine k_reg ?_
  refine l_box ?_
  refine k_nil ?_
  refine f_t ?_
  refine k_seq ?_
  refine k_reg ?_
  refine l_move ?_
  refine l_callX [(16000101, 15000101), (16000102, 15000102), (16000103, 15000103), (16000104, 15000104), (16000151, 100551)] [15000101, 15000102, 15000103, 15000104] h (fun _ => parse_reader_flush_s16_ok) (fun v1 _ h => ?_)
  refine k_nil ?_
  refine f_t ?_
  refine k_seq ?_
  refine k_reg ?_
  refine l_move ?_
  refine l_callX [(18000101, 15000101), (18000102, 15000102), (18000103, 15000103), (18000104, 100551)] [15000101, 15000102, 15000103, 100551] h (fun _ => parse_reader_parent_s18_ok) (fun v2 _ h => ?_)
  refine l_fieldAddr ?_
  refine l_store_box ?_
  refine k_nil ?_
  refine f_t ?_
  refine k_mix [7, 10] (.q 1 (.q 2 (.q 3 (.q 4 (.q 5 (.s 0 (.e 6 (.e 7 (.q 8 (.q 9 (.e 10 (.done)))))))))))) hm ?_
  refine gq ?_
  refine n_move ?_
  refine gq ?_
  refine n_nilCheck ?_
  refine gq ?_
  refine n_fieldAddr ?_
  refine gq ?_
  refine n_load ?_
  refine gq ?_
  refine n_load_agg ?_
  refine gs ?_
  refine x_move ?_
  refine m_nilt 14 ?_
  refine ge ?_
  refine n_lit (e := c_TNode) [(TNode.mk u1 v2 u3 u4 u5 u6 [] [])] ?_
  refine ge ?_
  refine n_appo h (fun v3 _ h => ?_)
  refine gq ?_
  refine n_nilCheck ?_
  refine gq ?_
  refine n_fieldAddr ?_
  refine ge ?_
  refine n_store_box ?_
  refine m_nil ?_
  apply k_ret [(15000101, 15000101), (15000102, 15000102), (15000103, 15000103), (100551, 15000151)] hB h
theorem parse_reader_enter_s13_ok {u1 : Int} {u2 : Int} {u3 : Str} {u4 : Str} {u5 : Str} {u6 : Str} {u7 : Str} {u8 : Bool} {u9 : Str} {u10 : Bool} {u11 : Bool} {u12 : (List TNode)} {u13 : (List TOpen_)} {u14 : (List UInt8)} {r : Bool × (List TNode) × (List TOpen_) × (List UInt8)} (h : parse_reader_enter_s13 u1 u2 u3 u4 u5 u6 u7 u8 u9 u10 u11 u12 u13 u14 = some r) : XSpec Tryz.prog 130 [.ptr 13000101 0, .agg [I u1, I u2, S u3, S u4, S u5, S u6, .pl (.slice none 0 0), .pl (.slice none 0 0)], S u7, B u8] [(13000101, .box 95 [S u9, .sl 13000102 0 u12.length, .sl 13000103 0 u13.length, .nptr u10 13000101 3, .sl 13000104 0 u14.length, B u11]), (13000102, .row 89 8 0 (F c_TNode u12)), (13000103, .row 168 2 0 (F c_TOpen_ u13)), (13000104, .row 5 1 0 (F cU u14))] (.tup []) [(13000101, .box 95 [S u9, .sl 13000102 0 r.2.1.length, .sl 13000103 0 r.2.2.1.length, .nptr r.1 13000101 3, .sl 13000151 0 r.2.2.2.length, B u11]), (13000102, .row 89 8 0 (F c_TNode r.2.1)), (13000103, .row 168 2 0 (F c_TOpen_ r.2.2.1)), (13000151, .row 5 1 0 (F cU r.2.2.2))] [13000102, 13000103, 13000104] := by
  unfold parse_reader_enter_s13 at h
  refine X_of_run Tryz.hU Tryz.func130 (fun _ _ _ hB => ?_)
  refine k_seq ?_
  refine k_reg ?_
  refine l_box ?_
  refine k_nil ?_
  refine f_t ?_
  refine k_seq ?_
  refine k_reg ?_
  refine l_move ?_
  refine l_fieldAddr ?_
  refine l_load ?_
  refine l_fieldAddr ?_
  refine l_load ?_
  refine l_callX [(14000101, 13000101), (14000102, 13000102), (14000103, 13000103), (14000104, 13000104)] [13000101, 13000102, 13000103, 13000104] h (fun _ => parse_reader_means_s14_ok) (fun v1 _ h => ?_)
  refine l_fieldAddr ?_
  refine l_store_box ?_
  refine k_nil ?_
  refine f_t ?_
  refine k_seq ?_
  refine k_seq ?_
  refine k_reg ?_
  refine l_fieldAddr ?_
  refine l_load ?_
  refine l_lenn ?_
  refine l_move ?_
  refine k_nil ?_
  refine f_t ?_
  refine k_block ?_
  refine k_loop (fun y2 => ⟨[(0, .ptr 13000101 0), (2, S u7), (3, B u8), (5, .ptr 1005 0), (18, .pl (.slice none 0 0)), (19, I 0), (20, I 0)], [(13000101, .box 95 [S u9, .sl 13000102 0 u12.length, .sl 13000103 0 u13.length, .nptr u10 13000101 3, .sl 13000104 0 u14.length, B u11]), (13000102, .row 89 8 0 (F c_TNode u12)), (13000103, .row 168 2 0 (F c_TOpen_ u13)), (13000104, .row 5 1 0 (F cU u14)), (1005, .box 89 [I u1, I u2, S u3, S u4, S v1, S u6, .pl (.slice none 0 0), .pl (.slice none 0 0)])], []⟩) (fun q3 => (.exit 0, ⟨[(0, .ptr 13000101 0), (2, S u7), (3, B u8), (5, .ptr 1005 0)], [(13000101, .box 95 [S u9, .sl 13000102 0 u12.length, .sl 13000103 0 u13.length, .nptr u10 13000101 3, .sl 13000104 0 u14.length, B u11]), (13000102, .row 89 8 0 (F c_TNode u12)), (13000103, .row 168 2 0 (F c_TOpen_ u13)), (13000104, .row 5 1 0 (F cU u14)), (1005, .box 89 [I u1, I u2, S u3, S u4, S v1, S u6, .pl (.slice none 0 0), .pl (.slice none 0 0)])], []⟩)) [(13000101, 13000101), (13000102, 13000102), (13000103, 13000103), (13000104, 13000104), (1005, 1005)] hB h (fun y2 t h => ?_) (fun q3 h => ?_)
  · unfold parse_reader_enter_s13_b1 at h
    refine k_seq ?_
    refine k_reg ?_
    refine l_cmp ?_
    refine k_nil ?_
    refine f_t ?_
    refine k_seq ?_
    refine k_if h (fun _ h => ?_) (fun _ h => ?_)
    · refine k_skip ?_
      refine f_t ?_
      refine k_seq ?_
      refine k_block ?_
      refine k_seq ?_
      refine k_reg ?_
      refine l_move ?_
      cases h
    refine k_exit ?_
    refine f_te ?_
    exact k_brk [(13000101, 13000101), (13000102, 13000102), (13000103, 13000103), (13000104, 13000104), (1005, 1005)] hB h
  refine f_be ?_
  refine f_t ?_
  refine k_seq ?_
  refine k_reg ?_
  refine l_move ?_
  refine l_load_agg ?_
  refine l_callX [(15000101, 13000101), (15000102, 13000102), (15000103, 13000103), (15000104, 13000104), (15000151, 104251)] [13000101, 13000102, 13000103, 13000104] h (fun _ => parse_reader_put_s15_ok) (fun v4 _ h => ?_)
  refine k_nil ?_
  refine f_t ?_
  refine k_seq ?_
  refine k_reg ?_
  refine l_move ?_
  refine l_un ?_
  refine k_nil ?_
  refine f_t ?_
  refine k_if h (fun _ h => ?_) (fun _ h => ?_)
  · refine k_mix [14, 17] (.q 1 (.q 2 (.q 3 (.q 4 (.q 5 (.q 6 (.q 7 (.q 8 (.q 9 (.q 10 (.q 11 (.q 12 (.s 0 (.e 13 (.e 14 (.q 15 (.q 16 (.e 17 (.done))))))))))))))))))) hm ?_
    refine gq ?_
    refine n_move ?_
    refine gq ?_
    refine n_nilCheck ?_
    refine gq ?_
    refine n_fieldAddr ?_
    refine gq ?_
    refine n_load ?_
    refine gq ?_
    refine n_move ?_
    refine gq ?_
    refine n_nilCheck ?_
    refine gq ?_
    refine n_fieldAddr ?_
    refine gq ?_
    refine n_load ?_
    refine gq ?_
    refine n_len ?_
    refine gq ?_
    refine n_subw ?_
    refine gq ?_
    refine n_move ?_
    refine gq ?_
    refine n_build ?_
    refine gs ?_
    refine x_move ?_
    refine ge ?_
    refine n_lit (e := c_TOpen_) [(TOpen_.mk (w64 ((v4.2.1.length : Int) - 1)) u7)] ?_
    refine ge ?_
    refine n_appo h (fun v5 _ h => ?_)
    refine gq ?_
    refine n_nilCheck ?_
    refine gq ?_
    refine n_fieldAddr ?_
    refine ge ?_
    refine n_store_box ?_
    refine m_nil ?_
    apply k_ret [(13000101, 13000101), (13000102, 13000102), (13000103, 13000103), (104251, 13000151)] hB h
  refine k_skip ?_
  apply k_ret [(13000101, 13000101), (13000102, 13000102), (13000103, 13000103), (104251, 13000151)] hB h
theorem parse_reader_start_s11_ok {u1 : Str} {u2 : Bool} {u3 : Bool} {u4 : (List TNode)} {u5 : (List TOpen_)} {u6 : (List UInt8)} {r : Bool × Str × Bool × (List TNode) × (List TOpen_) × (List UInt8)} (h : parse_reader_start_s11 u1 u2 u3 u4 u5 u6 = some r) : XSpec Tryz.prog 89 [.ptr 11000101 0] [(11000101, .box 95 [S u1, .sl 11000102 0 u4.length, .sl 11000103 0 u5.length, .nptr u2 11000101 3, .sl 11000104 0 u6.length, B u3]), (11000102, .row 89 8 0 (F c_TNode u4)), (11000103, .row 168 2 0 (F c_TOpen_ u5)), (11000104, .row 5 1 0 (F cU u6))] (B r.1) [(11000101, .box 95 [S r.2.1, .sl 11000102 0 r.2.2.2.1.length, .sl 11000103 0 r.2.2.2.2.1.length, .nptr r.2.2.1 11000101 3, .sl 11000151 0 r.2.2.2.2.2.length, B u3]), (11000102, .row 89 8 0 (F c_TNode r.2.2.2.1)), (11000103, .row 168 2 0 (F c_TOpen_ r.2.2.2.2.1)), (11000151, .row 5 1 0 (F cU r.2.2.2.2.2))] [11000102, 11000103, 11000104] := by
  unfold parse_reader_start_s11 at h
  refine X_of_run Tryz.hU Tryz.func89 (fun _ _ _ hB => ?_)
  refine k_seq ?_
  refine k_reg ?_
  refine l_assign ?_
  refine k_nil ?_
  refine f_t ?_
  refine k_seq ?_
  refine k_reg ?_
  refine l_move ?_
  refine l_callX [(12000101, 11000101), (12000102, 11000102), (12000103, 11000103), (12000104, 11000104)] [11000101, 11000102, 11000103, 11000104] h (fun _ => parse_reader_word_s12_ok) (fun v1 _ h => ?_)
  refine l_assign ?_
  refine k_nil ?_
  refine f_t ?_
  refine k_seq ?_
  refine k_reg ?_
  refine l_move ?_
  refine l_call h (fun _ => name_Split_ok) (fun v2 _ h => ?_)
  refine l_move ?_
  refine l_extract ?_
  refine l_extract ?_
  refine l_extract ?_
  refine l_assign ?_
  refine l_assign ?_
  refine l_assign ?_
  refine k_nil ?_
  refine f_t ?_
  refine k_seq ?_
  refine k_seq ?_
  refine k_reg ?_
  refine l_move ?_
  refine l_un ?_
  refine k_nil ?_
  refine f_t ?_
  refine k_if h (fun _ h => ?_) (fun _ h => ?_)
  · refine k_seq ?_
    refine k_reg ?_
    refine l_assign ?_
    refine k_nil ?_
    refine f_t ?_
    refine k_retc ?_
    refine f_tr ?_
    apply k_ret [(11000101, 11000101), (11000102, 11000102), (11000103, 11000103), (11000104, 11000151)] hB h
  refine k_skip ?_
  refine f_t ?_
  refine k_seq ?_
  refine k_reg ?_
  refine l_move ?_
  refine l_move ?_
  refine l_build ?_
  refine l_alloc ?_
  refine l_store_box ?_
  refine k_nil ?_
  refine f_t ?_
  refine k_block ?_
  refine k_loop (fun y3 => ⟨[(0, .ptr 11000101 0), (3, S v1.1), (7, .ptr 1007 0)], [(11000101, .box 95 [S v1.2, .sl 11000102 0 u4.length, .sl 11000103 0 u5.length, .nptr u2 11000101 3, .sl 11000104 0 u6.length, B u3]), (11000102, .row 89 8 0 (F c_TNode u4)), (11000103, .row 168 2 0 (F c_TOpen_ u5)), (11000104, .row 5 1 0 (F cU u6)), (1007, .box 89 [I 1, I 0, S v2.1, S v2.2.1, S [], S [], .pl (.slice none 0 0), .pl (.slice none 0 0)])], []⟩) (fun q10 => (.ret, ⟨[(2, B q10.1)], [(11000101, .box 95 [S q10.2.1, .sl 11000102 0 q10.2.2.2.1.length, .sl 11000103 0 q10.2.2.2.2.1.length, .nptr q10.2.2.1 11000101 3, .sl 104051 0 q10.2.2.2.2.2.length, B u3]), (11000102, .row 89 8 0 (F c_TNode q10.2.2.2.1)), (11000103, .row 168 2 0 (F c_TOpen_ q10.2.2.2.2.1)), (104051, .row 5 1 0 (F cU q10.2.2.2.2.2))], [11000102, 11000103, 11000104]⟩)) [(11000101, 11000101), (11000102, 11000102), (11000103, 11000103), (11000104, 11000104), (1007, 1007)] hB h (fun y3 t h => ?_) (fun q10 h => ?_)
  · unfold parse_reader_start_s11_b1 at h
    refine k_block ?_
    refine k_seq ?_
    refine k_reg ?_
    refine l_move ?_
    refine l_callX [(8000101, 11000101), (8000102, 11000102), (8000103, 11000103), (8000104, 11000104)] [11000101, 11000102, 11000103, 11000104] h (fun _ => parse_reader_blanks_s8_ok) (fun v4 _ h => ?_)
    refine l_assign ?_
    refine k_nil ?_
    refine f_t ?_
    refine k_seq ?_
    refine k_reg ?_
    refine l_move ?_
    refine l_callX [(10000101, 11000101), (10000102, 11000102), (10000103, 11000103), (10000104, 11000104)] [11000101, 11000102, 11000103, 11000104] h (fun _ => parse_reader_take_s10_ok) (fun v5 _ h => ?_)
    refine l_assign ?_
    refine l_assign ?_
    refine k_nil ?_
    refine f_t ?_
    refine k_seq ?_
    refine k_seq ?_
    refine k_reg ?_
    refine l_move ?_
    refine l_un ?_
    refine k_nil ?_
    refine f_t ?_
    refine k_if h (fun _ h => ?_) (fun _ h => ?_)
    · refine k_reg ?_
      refine l_move ?_
      refine l_callX [(10000101, 11000101), (10000102, 11000102), (10000103, 11000103), (10000104, 11000104)] [11000101, 11000102, 11000103, 11000104] h (fun _ => parse_reader_take_s10_ok) (fun v6 _ h => ?_)
      refine l_assign ?_
      refine k_nil ?_
      refine f_t ?_
      refine k_seq ?_
      refine k_seq ?_
      refine k_reg ?_
      refine l_move ?_
      refine l_move ?_
      refine l_split h (fun _ h => ?_) (fun _ h => ?_)
      · refine l_off ?_
        refine l_pick_true ?_
        refine k_nil ?_
        refine f_t ?_
        refine k_t ?_
        refine k_seq ?_
        refine k_reg ?_
        refine l_move ?_
        refine l_load_agg ?_
        refine l_move ?_
        refine l_move ?_
        refine l_callX [(13000101, 11000101), (13000102, 11000102), (13000103, 11000103), (13000104, 11000104), (13000151, 104051)] [11000101, 11000102, 11000103, 11000104] h (fun _ => parse_reader_enter_s13_ok) (fun v7 _ h => ?_)
        refine k_nil ?_
        refine f_t ?_
        refine k_seq ?_
        refine k_reg ?_
        refine l_assign ?_
        refine k_nil ?_
        refine f_t ?_
        refine k_retc ?_
        refine f_tr ?_
        refine f_br ?_
        exact k_brk [(11000101, 11000101), (11000102, 11000102), (11000103, 11000103), (104051, 104051)] hB h
      refine l_on ?_
      refine l_move ?_
      refine l_pick_false ?_
      refine k_nil ?_
      refine f_t ?_
      refine k_if h (fun _ h => ?_) (fun _ h => ?_)
      · refine k_seq ?_
        refine k_reg ?_
        refine l_move ?_
        refine l_load_agg ?_
        refine l_move ?_
        refine l_move ?_
        refine l_callX [(13000101, 11000101), (13000102, 11000102), (13000103, 11000103), (13000104, 11000104), (13000151, 104051)] [11000101, 11000102, 11000103, 11000104] h (fun _ => parse_reader_enter_s13_ok) (fun v8 _ h => ?_)
        refine k_nil ?_
        refine f_t ?_
        refine k_seq ?_
        refine k_reg ?_
        refine l_assign ?_
        refine k_nil ?_
        refine f_t ?_
        refine k_retc ?_
        refine f_tr ?_
        refine f_br ?_
        exact k_brk [(11000101, 11000101), (11000102, 11000102), (11000103, 11000103), (104051, 104051)] hB h
      refine k_skip ?_
      refine f_t ?_
      refine k_seq ?_
      refine k_reg ?_
      refine l_move ?_
      refine l_un ?_
      refine l_move ?_
      refine l_split h (fun _ h => ?_) (fun _ h => ?_)
      · refine l_off ?_
        refine l_off ?_
        refine l_off ?_
        refine l_pick_true ?_
        refine k_nil ?_
        refine f_t ?_
        refine k_t ?_
        refine k_seq ?_
        refine k_reg ?_
        refine l_assign ?_
        refine k_nil ?_
        refine f_t ?_
        refine k_retc ?_
        refine f_br ?_
        exact k_brk [(11000101, 11000101), (11000102, 11000102), (11000103, 11000103), (11000104, 104051)] hB h
      refine l_on ?_
      refine l_move ?_
      refine l_on ?_
      cases h
    refine k_skip ?_
    refine f_t ?_
    refine k_seq ?_
    refine k_seq ?_
    refine k_reg ?_
    refine l_move ?_
    refine l_move ?_
    refine l_split h (fun _ h => ?_) (fun _ h => ?_)
    · refine l_off ?_
      refine l_pick_true ?_
      refine k_nil ?_
      refine f_t ?_
      refine k_t ?_
      refine k_seq ?_
      refine k_reg ?_
      refine l_move ?_
      refine l_load_agg ?_
      refine l_move ?_
      refine l_move ?_
      refine l_callX [(13000101, 11000101), (13000102, 11000102), (13000103, 11000103), (13000104, 11000104), (13000151, 104051)] [11000101, 11000102, 11000103, 11000104] h (fun _ => parse_reader_enter_s13_ok) (fun v9 _ h => ?_)
      refine k_nil ?_
      refine f_t ?_
      refine k_seq ?_
      refine k_reg ?_
      refine l_assign ?_
      refine k_nil ?_
      refine f_t ?_
      refine k_retc ?_
      refine f_tr ?_
      refine f_br ?_
      exact k_brk [(11000101, 11000101), (11000102, 11000102), (11000103, 11000103), (104051, 104051)] hB h
    refine l_on ?_
    refine l_move ?_
    refine l_pick_false ?_
    refine k_nil ?_
    refine f_t ?_
    refine k_f ?_
    refine k_skip ?_
    refine f_t ?_
    refine k_seq ?_
    refine k_reg ?_
    refine l_move ?_
    refine l_un ?_
    refine l_move ?_
    refine l_split h (fun _ h => ?_) (fun _ h => ?_)
    · refine l_off ?_
      refine l_off ?_
      refine l_off ?_
      refine l_pick_true ?_
      refine k_nil ?_
      refine f_t ?_
      refine k_t ?_
      refine k_seq ?_
      refine k_reg ?_
      refine l_assign ?_
      refine k_nil ?_
      refine f_t ?_
      refine k_retc ?_
      refine f_br ?_
      exact k_brk [(11000101, 11000101), (11000102, 11000102), (11000103, 11000103), (11000104, 104051)] hB h
    refine l_on ?_
    refine l_move ?_
    refine l_on ?_
    cases h
  refine f_br ?_
  apply k_ret [(11000101, 11000101), (11000102, 11000102), (11000103, 11000103), (104051, 11000151)] hB h
theorem parse_reader_step_s9_ok {u1 : Str} {u2 : Bool} {u3 : Bool} {u4 : (List TNode)} {u5 : (List TOpen_)} {u6 : (List UInt8)} {r : Bool × Str × Bool × (List TNode) × (List TOpen_) × (List UInt8)} (h : parse_reader_step_s9 u1 u2 u3 u4 u5 u6 = some r) : XSpec Tryz.prog 53 [.ptr 9000101 0] [(9000101, .box 95 [S u1, .sl 9000102 0 u4.length, .sl 9000103 0 u5.length, .nptr u2 9000101 3, .sl 9000104 0 u6.length, B u3]), (9000102, .row 89 8 0 (F c_TNode u4)), (9000103, .row 168 2 0 (F c_TOpen_ u5)), (9000104, .row 5 1 0 (F cU u6))] (B r.1) [(9000101, .box 95 [S r.2.1, .sl 9000102 0 r.2.2.2.1.length, .sl 9000103 0 r.2.2.2.2.1.length, .nptr r.2.2.1 9000101 3, .sl 9000151 0 r.2.2.2.2.2.length, B u3]), (9000102, .row 89 8 0 (F c_TNode r.2.2.2.1)), (9000103, .row 168 2 0 (F c_TOpen_ r.2.2.2.2.1)), (9000151, .row 5 1 0 (F cU r.2.2.2.2.2))] [9000102, 9000103, 9000104] := by
  unfold parse_reader_step_s9 at h
  refine X_of_run Tryz.hU Tryz.func53 (fun _ _ _ hB => ?_)
  refine k_seq ?_
  refine k_reg ?_
  refine l_assign ?_
  refine k_nil ?_
  refine f_t ?_
  refine k_seq ?_
  refine k_block ?_
  refine k_seq ?_
  refine k_reg ?_
  refine l_move ?_
  refine l_callX [(10000101, 9000101), (10000102, 9000102), (10000103, 9000103), (10000104, 9000104)] [9000101, 9000102, 9000103, 9000104] h (fun _ => parse_reader_take_s10_ok) (fun v1 _ h => ?_)
  refine l_assign ?_
  refine k_nil ?_
  refine f_t ?_
  refine k_if h (fun _ h => ?_) (fun _ h => ?_)
  · refine k_seq ?_
    refine k_reg ?_
    refine l_move ?_
    cases h
  refine k_seq ?_
  refine k_cut (fun q3 => (.normal, ⟨[(0, .ptr 9000101 0), (20, B q3.1)], [(9000101, .box 95 [S q3.2, .sl 9000102 0 u4.length, .sl 9000103 0 u5.length, .nptr u2 9000101 3, .sl 9000104 0 u6.length, B u3]), (9000102, .row 89 8 0 (F c_TNode u4)), (9000103, .row 168 2 0 (F c_TOpen_ u5)), (9000104, .row 5 1 0 (F cU u6))], []⟩)) h (fun t h => ?_) (fun q3 h => ?_)
  · refine k_reg ?_
    refine l_move ?_
    refine l_nilCheck ?_
    refine l_fieldAddr ?_
    refine l_load ?_
    refine l_len ?_
    refine l_cmp ?_
    refine l_move ?_
    refine l_split h (fun _ h => ?_) (fun _ h => ?_)
    · refine l_on ?_
      refine l_move ?_
      refine l_on ?_
      refine l_callX [(10000101, 9000101), (10000102, 9000102), (10000103, 9000103), (10000104, 9000104)] [9000101, 9000102, 9000103, 9000104] h (fun _ => parse_reader_take_s10_ok) (fun v2 _ h => ?_)
      refine l_pick_true ?_
      refine l_assign ?_
      refine k_nil ?_
      exact k_out [(9000101, 9000101), (9000102, 9000102), (9000103, 9000103), (9000104, 9000104)] hB h
    refine l_off ?_
    refine l_off ?_
    refine l_pick_false ?_
    refine l_assign ?_
    refine k_nil ?_
    exact k_out [(9000101, 9000101), (9000102, 9000102), (9000103, 9000103), (9000104, 9000104)] hB h
  refine f_t ?_
  refine k_if h (fun _ h => ?_) (fun _ h => ?_)
  · refine k_seq ?_
    refine k_reg ?_
    refine l_move ?_
    cases h
  refine k_seq ?_
  refine k_reg ?_
  refine l_move ?_
  refine l_callX [(10000101, 9000101), (10000102, 9000102), (10000103, 9000103), (10000104, 9000104)] [9000101, 9000102, 9000103, 9000104] h (fun _ => parse_reader_take_s10_ok) (fun v4 _ h => ?_)
  refine l_assign ?_
  refine k_nil ?_
  refine f_t ?_
  refine k_if h (fun _ h => ?_) (fun _ h => ?_)
  · refine k_seq ?_
    refine k_reg ?_
    refine l_move ?_
    cases h
  refine k_seq ?_
  refine k_reg ?_
  refine l_move ?_
  refine l_callX [(10000101, 9000101), (10000102, 9000102), (10000103, 9000103), (10000104, 9000104)] [9000101, 9000102, 9000103, 9000104] h (fun _ => parse_reader_take_s10_ok) (fun v5 _ h => ?_)
  refine l_assign ?_
  refine k_nil ?_
  refine f_t ?_
  refine k_if h (fun _ h => ?_) (fun _ h => ?_)
  · refine k_seq ?_
    refine k_reg ?_
    refine l_move ?_
    cases h
  refine k_seq ?_
  refine k_reg ?_
  refine l_move ?_
  refine l_callX [(10000101, 9000101), (10000102, 9000102), (10000103, 9000103), (10000104, 9000104)] [9000101, 9000102, 9000103, 9000104] h (fun _ => parse_reader_take_s10_ok) (fun v6 _ h => ?_)
  refine l_assign ?_
  refine k_nil ?_
  refine f_t ?_
  refine k_if h (fun _ h => ?_) (fun _ h => ?_)
  · refine k_seq ?_
    refine k_reg ?_
    refine l_move ?_
    refine l_callX [(11000101, 9000101), (11000102, 9000102), (11000103, 9000103), (11000104, 9000104), (11000151, 105651)] [9000101, 9000102, 9000103, 9000104] h (fun _ => parse_reader_start_s11_ok) (fun v7 _ h => ?_)
    refine l_assign ?_
    refine k_nil ?_
    refine f_t ?_
    refine k_retc ?_
    refine f_br ?_
    refine f_tr ?_
    apply k_ret [(9000101, 9000101), (9000102, 9000102), (9000103, 9000103), (105651, 9000151)] hB h
  refine k_skip ?_
  refine f_b ?_
  refine f_t ?_
  refine k_seq ?_
  refine k_reg ?_
  refine l_move ?_
  cases h
theorem parse_Parse_ok {b : (List UInt8)} {r : (Option TDoc) × Int} (h : parse_Parse b = some r) : XSpec Tryz.prog 25 [.vs b.length (F cU b)] [] (.tup [oP c_TDoc r.1, I r.2]) [] [] := by
  unfold parse_Parse at h
  refine X_of_run Tryz.hU Tryz.func25 (fun _ _ _ hB => ?_)
  refine k_seq ?_
  refine k_reg ?_
  refine l_assign ?_
  refine l_assign ?_
  refine k_nil ?_
  refine f_t ?_
  refine k_seq ?_
  refine k_block ?_
  refine k_seq ?_
  refine k_reg ?_
  refine l_move ?_
  refine l_len ?_
  refine l_cmp ?_
  refine l_assign ?_
  refine k_nil ?_
  refine f_t ?_
  refine k_if h (fun _ h => ?_) (fun _ h => ?_)
  · refine k_seq ?_
    refine k_reg ?_
    refine l_assign ?_
    refine l_assign ?_
    refine k_nil ?_
    refine f_t ?_
    refine k_retc ?_
    refine f_br ?_
    refine f_tr ?_
    apply k_retN [] hB h
  refine k_seq ?_
  refine k_reg ?_
  refine l_move ?_
  refine l_call h (fun _ => utf_Text_ok) (fun v1 _ h => ?_)
  refine l_un ?_
  refine l_assign ?_
  refine k_nil ?_
  refine f_t ?_
  refine k_if h (fun _ h => ?_) (fun _ h => ?_)
  · refine k_seq ?_
    refine k_reg ?_
    refine l_assign ?_
    refine l_assign ?_
    refine k_nil ?_
    refine f_t ?_
    refine k_retc ?_
    refine f_br ?_
    refine f_tr ?_
    apply k_retN [] hB h
  refine k_skip ?_
  refine f_b ?_
  refine f_t ?_
  refine k_seq ?_
  refine k_reg ?_
  refine l_move ?_
  refine l_bstr ?_
  refine l_call h (fun _ => chars_Lines_ok) (fun v2 _ h => ?_)
  refine l_build ?_
  refine l_nilt 16 ?_
  refine l_lit (e := c_TNode) [(TNode.mk 0 (-1) [] [] [] [] [] [])] ?_
  refine l_build ?_
  refine l_box ?_
  refine l_assign ?_
  refine k_nil ?_
  refine f_t ?_
  refine k_seq ?_
  refine k_seq ?_
  refine k_reg ?_
  refine l_move ?_
  refine l_nilcell (te := 168) (b1 := 1019) (j := 2) 13192 2 ?_
  refine l_nilcell (te := 5) (b1 := 1019) (j := 4) 13194 1 ?_
  refine l_npcell (b := 1019) (j := 3) 1019 3 ?_
  refine l_callX [(7000101, 1019), (7000102, 1017), (7000103, 13192), (7000104, 13194)] [1019, 1017, 13192, 13194] h (fun _ => parse_reader_declaration_s7_ok) (fun v3 _ h => ?_)
  refine l_un ?_
  refine k_nil ?_
  refine f_t ?_
  refine k_if h (fun _ h => ?_) (fun _ h => ?_)
  · refine k_seq ?_
    refine k_reg ?_
    refine l_assign ?_
    refine l_assign ?_
    refine k_nil ?_
    refine f_t ?_
    refine k_retc ?_
    refine f_tr ?_
    apply k_retN [] hB h
  refine k_skip ?_
  refine f_t ?_
  refine k_seq ?_
  refine k_block ?_
  refine k_loop (fun y4 => ⟨[(4, .ptr 1019 0)], [(1019, .box 95 [S y4.1, .sl 1017 0 y4.2.2.1.length, .sl 13192 0 y4.2.2.2.1.length, .nptr y4.2.1 1019 3, .sl 13194 0 y4.2.2.2.2.length, B false]), (1017, .row 89 8 0 (F c_TNode y4.2.2.1)), (13192, .row 168 2 0 (F c_TOpen_ y4.2.2.2.1)), (13194, .row 5 1 0 (F cU y4.2.2.2.2))], []⟩) (Sum.elim (fun q6 => (.ret, ⟨[(2, .pl (.pointer none)), (3, I 2)], [], [1017, 13192, 13194]⟩)) (fun q7 => (.exit 1, ⟨[(4, .ptr 1019 0)], [(1019, .box 95 [S q7.1, .sl 1017 0 q7.2.2.1.length, .sl 13192 0 q7.2.2.2.1.length, .nptr q7.2.1 1019 3, .sl 13194 0 q7.2.2.2.2.length, B false]), (1017, .row 89 8 0 (F c_TNode q7.2.2.1)), (13192, .row 168 2 0 (F c_TOpen_ q7.2.2.2.1)), (13194, .row 5 1 0 (F cU q7.2.2.2.2))], []⟩))) [(1019, 1019), (1017, 1017), (13192, 13192), (13194, 13194)] hB h (fun y4 t h => ?_) (fun q h => ?_)
  · unfold parse_Parse_b1 at h
    refine k_seq ?_
    refine k_seq ?_
    refine k_reg ?_
    refine l_move ?_
    refine l_nilCheck ?_
    refine l_fieldAddr ?_
    refine l_load ?_
    refine l_sne ?_
    refine k_nil ?_
    refine f_t ?_
    refine k_if h (fun _ h => ?_) (fun _ h => ?_)
    · refine k_skip ?_
      refine f_t ?_
      refine k_block ?_
      refine k_seq ?_
      refine k_reg ?_
      refine l_move ?_
      refine l_callX [(9000101, 1019), (9000102, 1017), (9000103, 13192), (9000104, 13194), (9000151, 102951)] [1019, 1017, 13192, 13194] h (fun _ => parse_reader_step_s9_ok) (fun v5 _ h => ?_)
      refine l_un ?_
      refine k_nil ?_
      refine f_t ?_
      refine k_if h (fun _ h => ?_) (fun _ h => ?_)
      · refine k_seq ?_
        refine k_reg ?_
        refine l_assign ?_
        refine l_assign ?_
        refine k_nil ?_
        refine f_t ?_
        refine k_retc ?_
        refine f_br ?_
        exact k_brk [] hB h
      refine k_skip ?_
      refine f_b ?_
      exact k_next [(1019, 1019), (1017, 1017), (13192, 13192), (102951, 13194)] hB h
    refine k_exit ?_
    refine f_te ?_
    exact k_brk [(1019, 1019), (1017, 1017), (13192, 13192), (13194, 13194)] hB h
  rcases q with q6 | q7
  · dsimp only [Sum.elim] at h ⊢
    refine f_br ?_
    refine f_tr ?_
    apply k_retN [] hB h
  dsimp only [Sum.elim] at h ⊢
  refine f_be ?_
  refine f_t ?_
  refine k_seq ?_
  refine k_seq ?_
  refine k_reg ?_
  refine l_move ?_
  refine l_nilCheck ?_
  refine l_fieldAddr ?_
  refine l_load ?_
  refine l_len ?_
  refine l_cmp ?_
  refine k_nil ?_
  refine f_t ?_
  refine k_if h (fun _ h => ?_) (fun _ h => ?_)
  · refine k_seq ?_
    refine k_reg ?_
    refine l_assign ?_
    refine l_assign ?_
    refine k_nil ?_
    refine f_t ?_
    refine k_retc ?_
    refine f_tr ?_
    apply k_retN [] hB h
  refine k_skip ?_
  refine f_t ?_
  refine k_seq ?_
  refine k_reg ?_
  refine l_move ?_
  refine l_nilCheck ?_
  refine l_fieldAddr ?_
  refine l_load ?_
  refine l_frz 1017 ?_
  refine l_call h (fun _ => doc_Of_ok) (fun v8 _ h => ?_)
  refine l_extract ?_
  refine l_extract ?_
  refine l_assign ?_
  refine l_assign ?_
  refine k_nil ?_
  refine f_t ?_
  refine k_retc ?_
  apply k_ret [] hB h
theorem doc_Doc_Len_ok {d : (Option TDoc)} {r : Int} (h : doc_Doc_Len d = some r) : XSpec Tryz.prog 55 [oP c_TDoc d] [] (I r) [] [] := by
  unfold doc_Doc_Len at h
  refine X_of_run Tryz.hU Tryz.func55 (fun _ _ _ hB => ?_)
  refine k_seq ?_
  refine k_reg ?_
  refine l_assign ?_
  refine k_nil ?_
  refine f_t ?_
  refine k_seq ?_
  refine k_seq ?_
  refine k_reg ?_
  refine l_move ?_
  refine l_pnil ?_
  refine k_nil ?_
  refine f_t ?_
  refine k_if h (fun _ h => ?_) (fun _ h => ?_)
  · refine k_seq ?_
    refine k_reg ?_
    refine l_assign ?_
    refine k_nil ?_
    refine f_t ?_
    refine k_retc ?_
    refine f_tr ?_
    apply k_ret [] hB h
  refine k_skip ?_
  refine f_t ?_
  refine k_seq ?_
  refine k_reg ?_
  refine l_move ?_
  refine l_deref h (fun v1 _ h => ?_)
  refine l_fieldAddr ?_
  refine l_load ?_
  refine l_len ?_
  refine l_assign ?_
  refine k_nil ?_
  refine f_t ?_
  refine k_retc ?_
  apply k_ret [] hB h
theorem doc_Doc_has_ok {d : (Option TDoc)} {n : Int} {r : Bool} (h : doc_Doc_has d n = some r) : XSpec Tryz.prog 103 [oP c_TDoc d, I n] [] (B r) [] [] := by
  unfold doc_Doc_has at h
  refine X_of_run Tryz.hU Tryz.func103 (fun _ _ _ hB => ?_)
  refine k_seq ?_
  refine k_reg ?_
  refine l_assign ?_
  refine k_nil ?_
  refine f_t ?_
  refine k_seq ?_
  refine k_reg ?_
  refine l_move ?_
  refine l_cmp ?_
  refine l_move ?_
  refine l_split h (fun _ h => ?_) (fun _ h => ?_)
  · refine l_on ?_
    refine l_move ?_
    refine l_on ?_
    refine l_move ?_
    refine l_on ?_
    refine l_call h (fun _ => doc_Doc_Len_ok) (fun v1 _ h => ?_)
    refine l_on ?_
    refine l_cmp ?_
    refine l_pick_true ?_
    refine l_assign ?_
    refine k_nil ?_
    refine f_t ?_
    refine k_retc ?_
    apply k_ret [] hB h
  refine l_off ?_
  refine l_off ?_
  refine l_off ?_
  refine l_off ?_
  refine l_pick_false ?_
  refine l_assign ?_
  refine k_nil ?_
  refine f_t ?_
  refine k_retc ?_
  apply k_ret [] hB h
theorem doc_Doc_Node_ok {d : (Option TDoc)} {n : Int} {r : TNode} (h : doc_Doc_Node d n = some r) : XSpec Tryz.prog 61 [oP c_TDoc d, I n] [] (.agg (c_TNode r)) [] [] := by
  unfold doc_Doc_Node at h
  refine X_of_run Tryz.hU Tryz.func61 (fun _ _ _ hB => ?_)
  refine k_seq ?_
  refine k_reg ?_
  refine l_alloc ?_
  refine k_nil ?_
  refine f_t ?_
  refine k_seq ?_
  refine k_seq ?_
  refine k_reg ?_
  refine l_move ?_
  refine l_move ?_
  refine l_call h (fun _ => doc_Doc_has_ok) (fun v1 _ h => ?_)
  refine l_un ?_
  refine k_nil ?_
  refine f_t ?_
  refine k_if h (fun _ h => ?_) (fun _ h => ?_)
  · refine k_seq ?_
    refine k_reg ?_
    refine l_build ?_
    refine l_store_box ?_
    refine k_nil ?_
    refine f_t ?_
    refine k_retc ?_
    refine f_tr ?_
    apply k_retN [] hB h
  refine k_skip ?_
  refine f_t ?_
  refine k_seq ?_
  refine k_reg ?_
  refine l_move ?_
  refine l_deref h (fun v2 _ h => ?_)
  refine l_fieldAddr ?_
  refine l_load ?_
  refine l_move ?_
  refine l_at h (fun v3 _ h => ?_)
  refine l_load_agg ?_
  refine l_callX [(1, 101701), (2, 101702)] [] h (fun _ => doc_clone_ok) (fun v4 _ h => ?_)
  refine l_store_box ?_
  refine k_nil ?_
  refine f_t ?_
  refine k_retc ?_
  refine f_frz 101701 ?_
  refine f_frz 101702 ?_
  apply k_ret [] hB h
theorem ident_names_ok {a : TAttr} {r : Bool} (h : ident_names a = some r) : XSpec Tryz.prog 94 [.agg (c_TAttr a)] [] (B r) [] [] := by
  unfold ident_names at h
  refine X_of_run Tryz.hU Tryz.func94 (fun _ _ _ hB => ?_)
  refine k_seq ?_
  refine k_reg ?_
  refine l_box ?_
  refine l_assign ?_
  refine k_nil ?_
  refine f_t ?_
  refine k_seq ?_
  refine k_seq ?_
  refine k_reg ?_
  refine l_fieldAddr ?_
  refine l_load ?_
  refine l_seq ?_
  refine k_nil ?_
  refine f_t ?_
  refine k_if h (fun _ h => ?_) (fun _ h => ?_)
  · refine k_seq ?_
    refine k_reg ?_
    refine l_fieldAddr ?_
    refine l_load ?_
    refine l_seq ?_
    refine l_assign ?_
    refine k_nil ?_
    refine f_t ?_
    refine k_retc ?_
    refine f_tr ?_
    apply k_ret [] hB h
  refine k_skip ?_
  refine f_t ?_
  refine k_seq ?_
  refine k_reg ?_
  refine l_fieldAddr ?_
  refine l_load ?_
  refine l_seq ?_
  refine l_move ?_
  refine l_split h (fun _ h => ?_) (fun _ h => ?_)
  · refine l_on ?_
    refine l_fieldAddr ?_
    refine l_on ?_
    refine l_load ?_
    refine l_on ?_
    refine l_seq ?_
    refine l_on ?_
    refine l_move ?_
    refine l_split h (fun _ h => ?_) (fun _ h => ?_)
    · refine l_off ?_
      refine l_off ?_
      refine l_off ?_
      refine l_on ?_
      refine l_pick_true ?_
      refine l_on ?_
      refine l_move ?_
      refine l_off ?_
      refine l_off ?_
      refine l_off ?_
      refine l_on ?_
      refine l_pick_true ?_
      refine l_pick_true ?_
      refine l_assign ?_
      refine k_nil ?_
      refine f_t ?_
      refine k_retc ?_
      apply k_ret [] hB h
    refine l_on ?_
    refine l_fieldAddr ?_
    refine l_on ?_
    refine l_load ?_
    refine l_on ?_
    refine l_seq ?_
    refine l_on ?_
    refine l_pick_false ?_
    refine l_on ?_
    refine l_move ?_
    refine l_split h (fun _ h => ?_) (fun _ h => ?_)
    · refine l_off ?_
      refine l_off ?_
      refine l_off ?_
      refine l_on ?_
      refine l_pick_true ?_
      refine l_pick_true ?_
      refine l_assign ?_
      refine k_nil ?_
      refine f_t ?_
      refine k_retc ?_
      apply k_ret [] hB h
    refine l_on ?_
    refine l_fieldAddr ?_
    refine l_on ?_
    refine l_load ?_
    refine l_on ?_
    refine l_seq ?_
    refine l_on ?_
    refine l_pick_false ?_
    refine l_pick_true ?_
    refine l_assign ?_
    refine k_nil ?_
    refine f_t ?_
    refine k_retc ?_
    apply k_ret [] hB h
  refine l_off ?_
  refine l_off ?_
  refine l_off ?_
  refine l_off ?_
  refine l_off ?_
  refine l_off ?_
  refine l_off ?_
  refine l_off ?_
  refine l_off ?_
  refine l_off ?_
  refine l_off ?_
  refine l_off ?_
  refine l_off ?_
  refine l_pick_false ?_
  refine l_assign ?_
  refine k_nil ?_
  refine f_t ?_
  refine k_retc ?_
  apply k_ret [] hB h
end Go.Proofs.YtipbfnjpfmmkfaaGreatDoor
