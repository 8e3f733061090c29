/-
  WALKS, printed by aw.py: that the program's functions compute the plain ones. Conditions: none.
-/
import Derived.Test.YtebcdmfekidfoaaProg
import Derived.Test.YtebcdmfekidfoaaAbsZero
import Derived.Test.YtebcdmfekidfoaaGPure
import Derived.Test.YtebcdmfekidfoaaAbsSort
import Derived.Test.YtebcdmfekidfoaaLGWalk
set_option linter.unusedVariables false
set_option linter.unusedSimpArgs false
set_option maxRecDepth 20000
set_option maxHeartbeats 4000000
namespace Go.Proofs.Ytebcdmfekidfoaa
open Go Go.Abs W G
def Try.U : List (Nat × TI) := [
  (3, ⟨.int .i64, 1, 8, .int .i64 0⟩),
  (4, ⟨.bool, 1, 1, .bool false⟩),
  (9, ⟨.string, 1, 16, .string ⟨#[]⟩⟩),
  (60, ⟨.slice 62, 1, 24, .slice none 0 0⟩),
  (62, ⟨.struct #[{ name := "N", type := 3, offset := 0, embedded := false, tag := "", pkgPath := "", byteOffset := 0 }, { name := "Part", type := 3, offset := 1, embedded := false, tag := "", pkgPath := "", byteOffset := 8 }, { name := "I", type := 3, offset := 2, embedded := false, tag := "", pkgPath := "", byteOffset := 16 }], 3, 24, .agg #[.int .i64 0, .int .i64 0, .int .i64 0]⟩),
  (81, ⟨.func #[62, 62] #[3] false, 1, 8, .nilFunc⟩),
  (101, ⟨.int .u64, 1, 8, .int .u64 0⟩),
  (105, ⟨.slice 60, 1, 24, .slice none 0 0⟩),
  (110, ⟨.func #[62] #[4] false, 1, 8, .nilFunc⟩),
  (131, ⟨.slice 3, 1, 24, .slice none 0 0⟩)]
theorem Try.hU : TabOk Try.prog Try.U :=
  .cons (by kernel_rfl) (by kernel_rfl) <|
  .cons (by kernel_rfl) (by kernel_rfl) <|
  .cons (by kernel_rfl) (by kernel_rfl) <|
  .cons (by kernel_rfl) (by kernel_rfl) <|
  .cons (by kernel_rfl) (by kernel_rfl) <|
  .cons (by kernel_rfl) (by kernel_rfl) <|
  .cons (by kernel_rfl) (by kernel_rfl) <|
  .cons (by kernel_rfl) (by kernel_rfl) <|
  .cons (by kernel_rfl) (by kernel_rfl) <|
  .cons (by kernel_rfl) (by kernel_rfl) <|
  .nil _
theorem hm : Try.prog.follows .mixedOrders = true := by kernel_rfl
theorem hs62 : Try.prog.stoodInHeld 62 = false := by kernel_rfl
theorem he62 : Try.prog.eqGuardType Try.prog.depth 62 = false := by kernel_rfl
def c_TPoint (x : TPoint) : List AV := [I x.N, I x.Part, I x.I]
theorem slices_Clone_Point_ok {s : (List TPoint)} {r : (List TPoint)} (h : slices_Clone_Point s = some r) : XSpec Try.prog 34 [.vs s.length (F c_TPoint s)] [] (.sl 1 0 r.length) [(1, .row 3 0 (F c_TPoint r))] [] := by
  unfold slices_Clone_Point at h
  refine X_of_run Try.hU Try.func34 (fun _ _ _ hB => ?_)
  refine k_seq ?_
  refine k_reg ?_
  refine l_assign ?_
  refine k_nil ?_
  refine f_t ?_
  refine k_seq ?_
  refine k_seq ?_
  refine k_reg ?_
  refine l_move ?_
  refine l_eqnil (fun bv1 hbv1 => ?_)
  refine k_nil ?_
  refine f_t ?_
  refine k_nd (fun e0 => ?_) (fun _ => ?_)
  · have e0 := List.eq_nil_of_length_eq_zero (hbv1 e0)
    try rw [e0] at h
    change (some []) = _ at h
    refine k_seq ?_
    refine k_reg ?_
    refine l_assign ?_
    refine k_nil ?_
    refine f_t ?_
    refine k_retc ?_
    refine f_tr ?_
    refine f_nilrow (t := 2) 3002 3 ?_
    apply k_ret [(3002, 1)] hB h
  refine k_skip ?_
  refine f_t ?_
  refine k_seq ?_
  refine k_reg ?_
  refine l_buildSlice0 ?_
  refine l_move ?_
  refine l_appf h (fun v2 _ h => ?_)
  refine l_assign ?_
  refine k_nil ?_
  refine f_t ?_
  refine k_retc ?_
  apply k_ret [(1005, 1)] hB h
theorem slices_SortFunc_Point_ok {x : (List TPoint)} {cmp : (TPoint → TPoint → Option Int)} {fk_cmp : Nat} (hf_cmp : ∀ {x0 : TPoint} {x1 : TPoint} {r : Int}, cmp x0 x1 = some r → XSpec Try.prog fk_cmp [.agg (c_TPoint x0), .agg (c_TPoint x1)] [] (I r) [] []) (hc_cmp : AV.closedL [] = true ∧ AV.onlyL [] [] = true) {r : (List TPoint)} (h : slices_SortFunc_Point x cmp = some r) : XSpec Try.prog 35 [.sl 101 0 x.length, .fn (.func fk_cmp) [] []] [(101, .row 3 0 (F c_TPoint x))] (.tup []) [(101, .row 3 0 (F c_TPoint r))] [] := by
  unfold slices_SortFunc_Point at h
  obtain ⟨cf, hT, hl, rfl⟩ := srt_some h
  have : Inhabited TPoint := ⟨⟨0, 0, 0⟩⟩
  exact sort_x Try.sort35 (by decide) Try.isAgg62 Try.sizeOf62 (enc := fun x => [.int .i64 x.N, .int .i64 x.Part, .int .i64 x.I]) (fun _ => rfl) (fun _ => rfl) (fun x v hv => by simp at hv; rcases hv with rfl | rfl | rfl <;> rfl) hT.swo hT.ant (fun x y => (hf_cmp (hT.val x y)).p) (fun es w => enters_of Try.func35 (by kernel_rfl) rfl es w) _ hl
theorem cmp_isNaN_int_ok {x : Int} {r : Bool} (h : cmp_isNaN_int x = some r) : XSpec Try.prog 65 [I x] [] (B r) [] [] := by
  unfold cmp_isNaN_int at h
  refine X_of_run Try.hU Try.func65 (fun _ _ _ hB => ?_)
  refine k_seq ?_
  refine k_reg ?_
  refine l_assign ?_
  refine k_nil ?_
  refine f_t ?_
  refine k_seq ?_
  refine k_reg ?_
  refine l_move ?_
  refine l_move ?_
  refine l_cmp ?_
  refine l_assign ?_
  refine k_nil ?_
  refine f_t ?_
  refine k_retc ?_
  apply k_ret [] hB h
theorem cmp_Compare_int_ok {x : Int} {y_ : Int} {r : Int} (h : cmp_Compare_int x y_ = some r) : XSpec Try.prog 47 [I x, I y_] [] (I r) [] [] := by
  unfold cmp_Compare_int at h
  refine X_of_run Try.hU Try.func47 (fun _ _ _ hB => ?_)
  refine k_seq ?_
  refine k_reg ?_
  refine l_assign ?_
  refine k_nil ?_
  refine f_t ?_
  refine k_seq ?_
  refine k_reg ?_
  refine l_move ?_
  refine l_call h (fun _ => cmp_isNaN_int_ok) (fun v1 _ h => ?_)
  refine l_assign ?_
  refine k_nil ?_
  refine f_t ?_
  refine k_seq ?_
  refine k_reg ?_
  refine l_move ?_
  refine l_call h (fun _ => cmp_isNaN_int_ok) (fun v2 _ h => ?_)
  refine l_assign ?_
  refine k_nil ?_
  refine f_t ?_
  refine k_seq ?_
  refine k_seq ?_
  refine k_reg ?_
  refine l_move ?_
  refine k_nil ?_
  refine f_t ?_
  refine k_if h (fun _ h => ?_) (fun _ h => ?_)
  · refine k_seq ?_
    refine k_seq ?_
    refine k_reg ?_
    refine l_move ?_
    refine k_nil ?_
    refine f_t ?_
    refine k_if h (fun _ h => ?_) (fun _ h => ?_)
    · refine k_seq ?_
      refine k_reg ?_
      refine l_assign ?_
      refine k_nil ?_
      refine f_t ?_
      refine k_retc ?_
      refine f_tr ?_
      refine f_tr ?_
      apply k_ret [] hB h
    refine k_skip ?_
    refine f_t ?_
    refine k_seq ?_
    refine k_reg ?_
    refine l_assign ?_
    refine k_nil ?_
    refine f_t ?_
    refine k_retc ?_
    refine f_tr ?_
    apply k_ret [] hB h
  refine k_skip ?_
  refine f_t ?_
  refine k_seq ?_
  refine k_seq ?_
  refine k_reg ?_
  refine l_move ?_
  refine k_nil ?_
  refine f_t ?_
  refine k_if h (fun _ h => ?_) (fun _ h => ?_)
  · refine k_seq ?_
    refine k_reg ?_
    refine l_assign ?_
    refine k_nil ?_
    refine f_t ?_
    refine k_retc ?_
    refine f_tr ?_
    apply k_ret [] hB h
  refine k_skip ?_
  refine f_t ?_
  refine k_seq ?_
  refine k_seq ?_
  refine k_reg ?_
  refine l_move ?_
  refine l_move ?_
  refine l_cmp ?_
  refine k_nil ?_
  refine f_t ?_
  refine k_if h (fun _ h => ?_) (fun _ h => ?_)
  · refine k_seq ?_
    refine k_reg ?_
    refine l_assign ?_
    refine k_nil ?_
    refine f_t ?_
    refine k_retc ?_
    refine f_tr ?_
    apply k_ret [] hB h
  refine k_skip ?_
  refine f_t ?_
  refine k_seq ?_
  refine k_seq ?_
  refine k_reg ?_
  refine l_move ?_
  refine l_move ?_
  refine l_cmp ?_
  refine k_nil ?_
  refine f_t ?_
  refine k_if h (fun _ h => ?_) (fun _ h => ?_)
  · refine k_seq ?_
    refine k_reg ?_
    refine l_assign ?_
    refine k_nil ?_
    refine f_t ?_
    refine k_retc ?_
    refine f_tr ?_
    apply k_ret [] hB h
  refine k_skip ?_
  refine f_t ?_
  refine k_seq ?_
  refine k_reg ?_
  refine l_assign ?_
  refine k_nil ?_
  refine f_t ?_
  refine k_retc ?_
  apply k_ret [] hB h
theorem cmp_Or_int_ok {vals : (List Int)} {r : Int} (h : cmp_Or_int vals = some r) : XSpec Try.prog 46 [.vs vals.length (F cI vals)] [] (I r) [] [] := by
  unfold cmp_Or_int at h
  refine X_of_run Try.hU Try.func46 (fun _ _ _ hB => ?_)
  refine k_seq ?_
  refine k_reg ?_
  refine l_assign ?_
  refine k_nil ?_
  refine f_t ?_
  refine k_seq ?_
  refine k_reg ?_
  refine l_assign ?_
  refine k_nil ?_
  refine f_t ?_
  refine k_seq ?_
  refine k_seq ?_
  refine k_reg ?_
  refine l_move ?_
  refine l_len ?_
  refine l_move ?_
  refine k_nil ?_
  refine f_t ?_
  refine k_block ?_
  refine k_loop (fun y1 => ⟨[(3, I 0), (6, .vs vals.length (F cI vals)), (7, I (vals.length : Int)), (8, I y1)], [], []⟩) (Sum.elim (fun q3 => (.ret, ⟨[(2, I q3)], [], []⟩)) (fun q4 => (.exit 0, ⟨[(3, I 0)], [], []⟩))) [] hB h (fun y1 t h => ?_) (fun q h => ?_)
  · unfold cmp_Or_int_b1 at h
    refine k_seq ?_
    refine k_reg ?_
    refine l_cmp ?_
    refine k_nil ?_
    refine f_t ?_
    refine k_seq ?_
    refine k_if h (fun _ h => ?_) (fun _ h => ?_)
    · refine k_skip ?_
      refine f_t ?_
      refine k_seq ?_
      refine k_block ?_
      refine k_seq ?_
      refine k_reg ?_
      refine l_at h (fun v2 _ h => ?_)
      refine l_load ?_
      refine l_assign ?_
      refine k_nil ?_
      refine f_t ?_
      refine k_seq ?_
      refine k_reg ?_
      refine l_move ?_
      refine l_move ?_
      refine l_cmp ?_
      refine k_nil ?_
      refine f_t ?_
      refine k_if h (fun _ h => ?_) (fun _ h => ?_)
      · refine k_seq ?_
        refine k_reg ?_
        refine l_move ?_
        refine l_assign ?_
        refine k_nil ?_
        refine f_t ?_
        refine k_retc ?_
        refine f_br ?_
        refine f_tr ?_
        exact k_brk [] hB h
      refine k_skip ?_
      refine f_b ?_
      refine f_t ?_
      refine k_reg ?_
      refine l_addw ?_
      refine l_move ?_
      refine k_nil ?_
      exact k_next [] hB h
    refine k_exit ?_
    refine f_te ?_
    exact k_brk [] hB h
  rcases q with q3 | q4
  · dsimp only [Sum.elim] at h ⊢
    refine f_br ?_
    refine f_tr ?_
    apply k_ret [] hB h
  dsimp only [Sum.elim] at h ⊢
  refine f_be ?_
  refine f_t ?_
  refine k_seq ?_
  refine k_reg ?_
  refine l_move ?_
  refine l_assign ?_
  refine k_nil ?_
  refine f_t ?_
  refine k_retc ?_
  apply k_ret [] hB h
theorem point_Compare_ok {a : TPoint} {b : TPoint} {r : Int} (h : point_Compare a b = some r) : XSpec Try.prog 36 [.agg (c_TPoint a), .agg (c_TPoint b)] [] (I r) [] [] := by
  unfold point_Compare at h
  refine X_of_run Try.hU Try.func36 (fun _ _ _ hB => ?_)
  refine k_seq ?_
  refine k_reg ?_
  refine l_box ?_
  refine l_box ?_
  refine l_assign ?_
  refine k_nil ?_
  refine f_t ?_
  refine k_seq ?_
  refine k_mix [] (.q 0 (.q 1 (.q 2 (.q 3 (.q 5 (.q 6 (.q 7 (.q 8 (.q 10 (.q 11 (.q 12 (.q 13 (.e 4 (.e 9 (.e 14 (.e 15 (.e 16 (.q 17 (.done))))))))))))))))))) hm ?_
  refine gq ?_
  refine n_fieldAddr ?_
  refine gq ?_
  refine n_load ?_
  refine gq ?_
  refine n_fieldAddr ?_
  refine gq ?_
  refine n_load ?_
  refine gq ?_
  refine n_fieldAddr ?_
  refine gq ?_
  refine n_load ?_
  refine gq ?_
  refine n_fieldAddr ?_
  refine gq ?_
  refine n_load ?_
  refine gq ?_
  refine n_fieldAddr ?_
  refine gq ?_
  refine n_load ?_
  refine gq ?_
  refine n_fieldAddr ?_
  refine gq ?_
  refine n_load ?_
  refine ge ?_
  refine n_call h (fun _ => cmp_Compare_int_ok) (fun v1 _ h => ?_)
  refine ge ?_
  refine n_call h (fun _ => cmp_Compare_int_ok) (fun v2 _ h => ?_)
  refine ge ?_
  refine n_call h (fun _ => cmp_Compare_int_ok) (fun v3 _ h => ?_)
  refine ge ?_
  refine n_lit (e := cI) [v1, v2, v3] ?_
  refine ge ?_
  refine n_callB h (fun _ => cmp_Or_int_ok) (fun v4 _ h => ?_)
  refine gq ?_
  refine n_assign ?_
  refine m_nil ?_
  refine f_t ?_
  refine k_retc ?_
  apply k_ret [] hB h
theorem slices_Compact_Point_ok {s : (List TPoint)} {r : (List TPoint)} (h : slices_Compact_Point s = some r) : XSpec Try.prog 37 [.sl 101 0 s.length] [(101, .row 3 0 (F c_TPoint s))] (.sl 101 0 r.length) [(101, .row 3 0 (F c_TPoint r))] [] := by
  unfold slices_Compact_Point at h
  refine X_of_run Try.hU Try.func37 (fun _ _ _ hB => ?_)
  refine k_seq ?_
  refine k_reg ?_
  refine l_assign ?_
  refine k_nil ?_
  refine f_t ?_
  refine k_seq ?_
  refine k_seq ?_
  refine k_reg ?_
  refine l_move ?_
  refine l_len ?_
  refine l_cmp ?_
  refine k_nil ?_
  refine f_t ?_
  refine k_if h (fun _ h => ?_) (fun _ h => ?_)
  · refine k_seq ?_
    refine k_reg ?_
    refine l_move ?_
    refine l_assign ?_
    refine k_nil ?_
    refine f_t ?_
    refine k_retc ?_
    refine f_tr ?_
    apply k_ret [(101, 101)] hB h
  refine k_skip ?_
  refine f_t ?_
  refine k_seq ?_
  refine k_seq ?_
  refine k_reg ?_
  refine l_assign ?_
  refine k_nil ?_
  refine f_t ?_
  refine k_block ?_
  refine k_loop (fun y1 => ⟨[(0, .sl 101 0 s.length), (3, I y1)], [(101, .row 3 0 (F c_TPoint s))], []⟩) (Sum.elim (fun q13 => (.ret, ⟨[(2, .sl 101 0 q13.length)], [(101, .row 3 0 (F c_TPoint q13))], []⟩)) (fun q14 => (.exit 0, ⟨[(0, .sl 101 0 s.length)], [(101, .row 3 0 (F c_TPoint s))], []⟩))) [(101, 101)] hB h (fun y1 t h => ?_) (fun q h => ?_)
  · unfold slices_Compact_Point_b1 at h
    refine k_seq ?_
    refine k_seq ?_
    refine k_reg ?_
    refine l_move ?_
    refine l_move ?_
    refine l_len ?_
    refine l_cmp ?_
    refine k_nil ?_
    refine f_t ?_
    refine k_if h (fun _ h => ?_) (fun _ h => ?_)
    · refine k_skip ?_
      refine f_t ?_
      refine k_seq ?_
      refine k_block ?_
      refine k_seq ?_
      refine k_mix [] (.q 0 (.q 1 (.q 2 (.q 3 (.q 4 (.q 5 (.q 6 (.q 7 (.q 8 (.q 9 (.done))))))))))) hm ?_
      refine gq ?_
      refine n_move ?_
      refine gq ?_
      refine n_move ?_
      refine gq ?_
      refine n_ato h (fun v2 ev2 h => ?_)
      refine gq ?_
      refine n_ldra ev2 ?_
      refine gq ?_
      refine n_move ?_
      refine gq ?_
      refine n_move ?_
      refine gq ?_
      refine n_subw ?_
      refine gq ?_
      refine n_ato h (fun v3 ev3 h => ?_)
      refine gq ?_
      refine n_ldra ev3 ?_
      refine gq ?_
      refine n_eqs (k := .i64) (TPoint.ints v2) (TPoint.ints v3) hs62 he62 ?_
      refine m_nil ?_
      refine f_t ?_
      refine k_if h (fun _ h => ?_) (fun _ h => ?_)
      · refine k_seq ?_
        refine k_reg ?_
        refine l_move ?_
        refine l_move ?_
        refine l_sub0 h (fun h => ?_)
        refine l_assign ?_
        refine k_nil ?_
        refine f_t ?_
        refine k_seq ?_
        refine k_seq ?_
        refine k_reg ?_
        refine l_assign ?_
        refine k_nil ?_
        refine f_t ?_
        refine k_block ?_
        refine k_loop (fun y4 => ⟨[(0, .sl 101 0 y4.2.2.length), (3, I y4.1), (4, .sl 101 (y1.toNat * 3) ((s.length : Int).toNat - y1.toNat)), (5, I y4.2.1)], [(101, .row 3 0 (F c_TPoint y4.2.2))], []⟩) (fun q10 => (.exit 2, ⟨[(0, .sl 101 0 q10.2.length), (3, I q10.1)], [(101, .row 3 0 (F c_TPoint q10.2))], []⟩)) [(101, 101)] hB h (fun y4 t h => ?_) (fun q10 h => ?_)
        · unfold slices_Compact_Point_b2 at h
          refine k_seq ?_
          refine k_seq ?_
          refine k_reg ?_
          refine l_move ?_
          refine l_move ?_
          refine l_len ?_
          refine l_cmp ?_
          refine k_nil ?_
          refine f_t ?_
          refine k_if h (fun _ h => ?_) (fun _ h => ?_)
          · refine k_skip ?_
            refine f_t ?_
            refine k_seq ?_
            refine k_block ?_
            refine k_seq ?_
            refine k_mix [] (.q 0 (.q 1 (.q 2 (.q 3 (.q 4 (.q 5 (.q 6 (.q 7 (.q 8 (.q 9 (.done))))))))))) hm ?_
            refine gq ?_
            refine n_move ?_
            refine gq ?_
            refine n_move ?_
            refine gq ?_
            refine n_atq h (fun v5 ev5 h => ?_)
            refine gq ?_
            refine n_ldra ev5 ?_
            refine gq ?_
            refine n_move ?_
            refine gq ?_
            refine n_move ?_
            refine gq ?_
            refine n_subw ?_
            refine gq ?_
            refine n_atq h (fun v6 ev6 h => ?_)
            refine gq ?_
            refine n_ldra ev6 ?_
            refine gq ?_
            refine n_eqs (k := .i64) (TPoint.ints v5) (TPoint.ints v6) hs62 he62 ?_
            refine m_nil ?_
            refine f_t ?_
            refine k_if h (fun _ h => ?_) (fun _ h => ?_)
            · refine k_seq ?_
              refine k_reg ?_
              refine l_move ?_
              refine l_move ?_
              refine l_move ?_
              refine l_move ?_
              refine l_atq h (fun v7 ev7 h => ?_)
              refine l_ldra ev7 ?_
              refine l_ato h (fun v8 ev8 h => ?_)
              refine l_put0 ev8 h (fun v9 ev9 h => ?_)
              refine k_nil ?_
              refine f_t ?_
              refine k_reg ?_
              refine l_move ?_
              refine l_addw ?_
              refine l_assign ?_
              refine k_nil ?_
              refine f_b ?_
              refine f_t ?_
              refine k_reg ?_
              refine l_move ?_
              refine l_addw ?_
              refine l_assign ?_
              refine k_nil ?_
              refine f_relen 0 v9.length ?_
              exact k_next [(101, 101)] hB h
            refine k_skip ?_
            refine f_b ?_
            refine f_t ?_
            refine k_reg ?_
            refine l_move ?_
            refine l_addw ?_
            refine l_assign ?_
            refine k_nil ?_
            exact k_next [(101, 101)] hB h
          refine k_exit ?_
          refine f_te ?_
          exact k_brk [(101, 101)] hB h
        refine f_be ?_
        refine f_t ?_
        refine k_seq ?_
        refine k_reg ?_
        refine l_move ?_
        refine l_move ?_
        refine l_sub0 h (fun h => ?_)
        refine l_clr (q := q10.1.toNat) (e := c_TPoint) h (fun v11 ev11 h => ?_)
        refine k_nil ?_
        refine f_t ?_
        refine k_seq ?_
        refine k_reg ?_
        refine l_move ?_
        refine l_move ?_
        refine l_subp h (fun h => ?_)
        refine l_assign ?_
        refine k_nil ?_
        refine f_t ?_
        refine k_retc ?_
        refine f_br ?_
        refine f_tr ?_
        refine f_shrink 101 h (fun v12 ev12 h => ?_)
        refine f_relen 2 v12.length ?_
        exact k_brk [(101, 101)] hB h
      refine k_skip ?_
      refine f_b ?_
      refine f_t ?_
      refine k_reg ?_
      refine l_move ?_
      refine l_addw ?_
      refine l_assign ?_
      refine k_nil ?_
      exact k_next [(101, 101)] hB h
    refine k_exit ?_
    refine f_te ?_
    exact k_brk [(101, 101)] hB h
  rcases q with q13 | q14
  · dsimp only [Sum.elim] at h ⊢
    refine f_br ?_
    refine f_tr ?_
    apply k_ret [(101, 101)] hB h
  dsimp only [Sum.elim] at h ⊢
  refine f_be ?_
  refine f_t ?_
  refine k_seq ?_
  refine k_reg ?_
  refine l_move ?_
  refine l_assign ?_
  refine k_nil ?_
  refine f_t ?_
  refine k_retc ?_
  apply k_ret [(101, 101)] hB h
theorem nodes_Of_ok {l : (List TPoint)} {r : (List TPoint)} (h : nodes_Of l = some r) : XSpec Try.prog 18 [.vs l.length (F c_TPoint l)] [] (.sl 1 0 r.length) [(1, .row 3 0 (F c_TPoint r))] [] := by
  unfold nodes_Of at h
  refine X_of_run Try.hU Try.func18 (fun _ _ _ hB => ?_)
  refine k_seq ?_
  refine k_reg ?_
  refine l_assign ?_
  refine k_nil ?_
  refine f_t ?_
  refine k_seq ?_
  refine k_reg ?_
  refine l_move ?_
  refine l_callX [(1, 100501)] [] h (fun _ => slices_Clone_Point_ok) (fun v1 _ h => ?_)
  refine l_assign ?_
  refine k_nil ?_
  refine f_t ?_
  refine k_seq ?_
  refine k_reg ?_
  refine l_move ?_
  refine l_callX [(101, 100501)] [100501] h (fun _ => slices_SortFunc_Point_ok (fun h => point_Compare_ok h) ⟨rfl, rfl⟩) (fun v2 _ h => ?_)
  refine l_eqn h (fun ev4 h => ?_)
  refine k_nil ?_
  refine f_t ?_
  refine k_seq ?_
  refine k_reg ?_
  refine l_move ?_
  refine l_relen 8 v2.length ?_
  refine l_callX [(101, 100501)] [100501] h (fun _ => slices_Compact_Point_ok) (fun v3 _ h => ?_)
  refine l_assign ?_
  refine k_nil ?_
  refine f_t ?_
  refine k_retc ?_
  apply k_ret [(100501, 1)] hB h
theorem nodes_Is_ok {l : (List TPoint)} {r : Bool} (h : nodes_Is l = some r) : XSpec Try.prog 21 [.vs l.length (F c_TPoint l)] [] (B r) [] [] := by
  unfold nodes_Is at h
  refine X_of_run Try.hU Try.func21 (fun _ _ _ hB => ?_)
  refine k_seq ?_
  refine k_reg ?_
  refine l_assign ?_
  refine k_nil ?_
  refine f_t ?_
  refine k_seq ?_
  refine k_seq ?_
  refine k_reg ?_
  refine l_assign ?_
  refine k_nil ?_
  refine f_t ?_
  refine k_block ?_
  refine k_loop (fun y1 => ⟨[(0, .vs l.length (F c_TPoint l)), (3, I y1)], [], []⟩) (Sum.elim (fun q5 => (.ret, ⟨[(2, B false)], [], []⟩)) (fun q6 => (.exit 0, ⟨[], [], []⟩))) [] hB h (fun y1 t h => ?_) (fun q h => ?_)
  · unfold nodes_Is_b1 at h
    refine k_seq ?_
    refine k_seq ?_
    refine k_reg ?_
    refine l_move ?_
    refine l_move ?_
    refine l_len ?_
    refine l_cmp ?_
    refine k_nil ?_
    refine f_t ?_
    refine k_if h (fun _ h => ?_) (fun _ h => ?_)
    · refine k_skip ?_
      refine f_t ?_
      refine k_seq ?_
      refine k_block ?_
      refine k_seq ?_
      refine k_mix [] (.q 0 (.q 1 (.q 2 (.q 3 (.q 4 (.q 5 (.q 6 (.q 7 (.q 8 (.e 9 (.q 10 (.done)))))))))))) hm ?_
      refine gq ?_
      refine n_move ?_
      refine gq ?_
      refine n_move ?_
      refine gq ?_
      refine n_subw ?_
      refine gq ?_
      refine n_at h (fun v2 _ h => ?_)
      refine gq ?_
      refine n_load_agg ?_
      refine gq ?_
      refine n_move ?_
      refine gq ?_
      refine n_move ?_
      refine gq ?_
      refine n_at h (fun v3 _ h => ?_)
      refine gq ?_
      refine n_load_agg ?_
      refine ge ?_
      refine n_call h (fun _ => point_Compare_ok) (fun v4 _ h => ?_)
      refine gq ?_
      refine n_cmp ?_
      refine m_nil ?_
      refine f_t ?_
      refine k_if h (fun _ h => ?_) (fun _ h => ?_)
      · refine k_seq ?_
        refine k_reg ?_
        refine l_assign ?_
        refine k_nil ?_
        refine f_t ?_
        refine k_retc ?_
        refine f_br ?_
        refine f_tr ?_
        exact k_brk [] hB h
      refine k_skip ?_
      refine f_b ?_
      refine f_t ?_
      refine k_reg ?_
      refine l_move ?_
      refine l_addw ?_
      refine l_assign ?_
      refine k_nil ?_
      exact k_next [] hB h
    refine k_exit ?_
    refine f_te ?_
    exact k_brk [] hB h
  rcases q with q5 | q6
  · dsimp only [Sum.elim] at h ⊢
    refine f_br ?_
    refine f_tr ?_
    apply k_ret [] hB h
  dsimp only [Sum.elim] at h ⊢
  refine f_be ?_
  refine f_t ?_
  refine k_seq ?_
  refine k_reg ?_
  refine l_assign ?_
  refine k_nil ?_
  refine f_t ?_
  refine k_retc ?_
  apply k_ret [] hB h
theorem slices_Index_Point_ok {s : (List TPoint)} {v_ : TPoint} {r : Int} (h : slices_Index_Point s v_ = some r) : XSpec Try.prog 48 [.vs s.length (F c_TPoint s), .agg (c_TPoint v_)] [] (I r) [] [] := by
  unfold slices_Index_Point at h
  refine X_of_run Try.hU Try.func48 (fun _ _ _ hB => ?_)
  refine k_seq ?_
  refine k_reg ?_
  refine l_box ?_
  refine l_assign ?_
  refine k_nil ?_
  refine f_t ?_
  refine k_seq ?_
  refine k_seq ?_
  refine k_reg ?_
  refine l_move ?_
  refine l_len ?_
  refine l_move ?_
  refine k_nil ?_
  refine f_t ?_
  refine k_block ?_
  refine k_loop (fun y1 => ⟨[(0, .vs s.length (F c_TPoint s)), (3, .ptr 1003 0), (7, I (s.length : Int)), (8, I y1)], [(1003, .box [I v_.N, I v_.Part, I v_.I])], []⟩) (Sum.elim (fun q3 => (.ret, ⟨[(4, I q3)], [], []⟩)) (fun q4 => (.exit 0, ⟨[], [], []⟩))) [(1003, 1003)] hB h (fun y1 t h => ?_) (fun q h => ?_)
  · unfold slices_Index_Point_b1 at h
    refine k_seq ?_
    refine k_reg ?_
    refine l_cmp ?_
    refine k_nil ?_
    refine f_t ?_
    refine k_seq ?_
    refine k_if h (fun _ h => ?_) (fun _ h => ?_)
    · refine k_skip ?_
      refine f_t ?_
      refine k_seq ?_
      refine k_block ?_
      refine k_seq ?_
      refine k_reg ?_
      refine l_move ?_
      refine l_assign ?_
      refine k_nil ?_
      refine f_t ?_
      refine k_seq ?_
      refine k_mix [] (.q 0 (.q 1 (.q 2 (.q 3 (.q 4 (.q 5 (.done))))))) hm ?_
      refine gq ?_
      refine n_load_agg ?_
      refine gq ?_
      refine n_move ?_
      refine gq ?_
      refine n_move ?_
      refine gq ?_
      refine n_at h (fun v2 _ h => ?_)
      refine gq ?_
      refine n_load_agg ?_
      refine gq ?_
      refine n_eqs (k := .i64) (TPoint.ints v_) (TPoint.ints v2) hs62 he62 ?_
      refine m_nil ?_
      refine f_t ?_
      refine k_if h (fun _ h => ?_) (fun _ h => ?_)
      · refine k_seq ?_
        refine k_reg ?_
        refine l_move ?_
        refine l_assign ?_
        refine k_nil ?_
        refine f_t ?_
        refine k_retc ?_
        refine f_br ?_
        refine f_tr ?_
        exact k_brk [] hB h
      refine k_skip ?_
      refine f_b ?_
      refine f_t ?_
      refine k_reg ?_
      refine l_addw ?_
      refine l_move ?_
      refine k_nil ?_
      exact k_next [(1003, 1003)] hB h
    refine k_exit ?_
    refine f_te ?_
    exact k_brk [] hB h
  rcases q with q3 | q4
  · dsimp only [Sum.elim] at h ⊢
    refine f_br ?_
    refine f_tr ?_
    apply k_ret [] hB h
  dsimp only [Sum.elim] at h ⊢
  refine f_be ?_
  refine f_t ?_
  refine k_seq ?_
  refine k_reg ?_
  refine l_assign ?_
  refine k_nil ?_
  refine f_t ?_
  refine k_retc ?_
  apply k_ret [] hB h
theorem slices_Contains_Point_ok {s : (List TPoint)} {v_ : TPoint} {r : Bool} (h : slices_Contains_Point s v_ = some r) : XSpec Try.prog 39 [.vs s.length (F c_TPoint s), .agg (c_TPoint v_)] [] (B r) [] [] := by
  unfold slices_Contains_Point at h
  refine X_of_run Try.hU Try.func39 (fun _ _ _ hB => ?_)
  refine k_seq ?_
  refine k_reg ?_
  refine l_box ?_
  refine l_assign ?_
  refine k_nil ?_
  refine f_t ?_
  refine k_seq ?_
  refine k_reg ?_
  refine l_move ?_
  refine l_load_agg ?_
  refine l_call h (fun _ => slices_Index_Point_ok) (fun v1 _ h => ?_)
  refine l_cmp ?_
  refine l_assign ?_
  refine k_nil ?_
  refine f_t ?_
  refine k_retc ?_
  apply k_ret [] hB h
theorem nodes_Has_ok {l : (List TPoint)} {p : TPoint} {r : Bool} (h : nodes_Has l p = some r) : XSpec Try.prog 22 [.vs l.length (F c_TPoint l), .agg (c_TPoint p)] [] (B r) [] [] := by
  unfold nodes_Has at h
  refine X_of_run Try.hU Try.func22 (fun _ _ _ hB => ?_)
  refine k_seq ?_
  refine k_reg ?_
  refine l_box ?_
  refine l_assign ?_
  refine k_nil ?_
  refine f_t ?_
  refine k_seq ?_
  refine k_reg ?_
  refine l_move ?_
  refine l_load_agg ?_
  refine l_call h (fun _ => slices_Contains_Point_ok) (fun v1 _ h => ?_)
  refine l_assign ?_
  refine k_nil ?_
  refine f_t ?_
  refine k_retc ?_
  apply k_ret [] hB h
theorem apostillelaw11_awake_ok {r : Bool} (h : apostillelaw11_awake = some r) : XSpec Try.prog 17 [] [] (B r) [] [] := by
  unfold apostillelaw11_awake at h
  refine X_of_run Try.hU Try.func17 (fun _ _ _ hB => ?_)
  refine k_seq ?_
  refine k_reg ?_
  refine l_assign ?_
  refine k_nil ?_
  refine f_t ?_
  refine k_seq ?_
  refine k_reg ?_
  refine l_build ?_
  refine l_build ?_
  refine l_build ?_
  refine l_lit (e := c_TPoint) [(TPoint.mk 2 0 0), (TPoint.mk 1 0 0), (TPoint.mk 1 0 0)] ?_
  refine l_frz 1005 ?_
  refine l_callX [(1, 100601)] [] h (fun _ => nodes_Of_ok) (fun v1 _ h => ?_)
  refine l_assign ?_
  refine k_nil ?_
  refine f_t ?_
  refine k_seq ?_
  refine k_reg ?_
  refine l_move ?_
  refine l_len ?_
  refine l_cmp ?_
  refine l_move ?_
  refine l_split h (fun _ h => ?_) (fun _ h => ?_)
  · refine l_on ?_
    refine l_move ?_
    refine l_on ?_
    refine l_ato h (fun v2 ev2 h => ?_)
    refine l_on ?_
    refine l_fieldAddr ?_
    refine l_on ?_
    refine l_ldr0 ev2 ?_
    refine l_on ?_
    refine l_cmp ?_
    refine l_pick_true ?_
    refine l_move ?_
    refine l_split h (fun _ h => ?_) (fun _ h => ?_)
    · refine l_on ?_
      refine l_move ?_
      refine l_on ?_
      refine l_callB h (fun _ => nodes_Is_ok) (fun v3 _ h => ?_)
      refine l_pick_true ?_
      refine l_move ?_
      refine l_split h (fun _ h => ?_) (fun _ h => ?_)
      · refine l_on ?_
        refine l_move ?_
        refine l_on ?_
        refine l_build ?_
        refine l_on ?_
        refine l_callB h (fun _ => nodes_Has_ok) (fun v4 _ h => ?_)
        refine l_pick_true ?_
        refine l_assign ?_
        refine k_nil ?_
        refine f_t ?_
        refine k_retc ?_
        apply k_ret [] hB h
      refine l_off ?_
      refine l_off ?_
      refine l_off ?_
      refine l_pick_false ?_
      refine l_assign ?_
      refine k_nil ?_
      refine f_t ?_
      refine k_retc ?_
      apply k_ret [] hB h
    refine l_off ?_
    refine l_off ?_
    refine l_pick_false ?_
    refine l_move ?_
    refine l_off ?_
    refine l_off ?_
    refine l_off ?_
    refine l_pick_false ?_
    refine l_assign ?_
    refine k_nil ?_
    refine f_t ?_
    refine k_retc ?_
    apply k_ret [] hB h
  refine l_off ?_
  refine l_off ?_
  refine l_off ?_
  refine l_off ?_
  refine l_off ?_
  refine l_pick_false ?_
  refine l_move ?_
  refine l_off ?_
  refine l_off ?_
  refine l_pick_false ?_
  refine l_move ?_
  refine l_off ?_
  refine l_off ?_
  refine l_off ?_
  refine l_pick_false ?_
  refine l_assign ?_
  refine k_nil ?_
  refine f_t ?_
  refine k_retc ?_
  apply k_ret [] hB h
theorem apostilleref10_Less_ok {a : TPoint} {b : TPoint} {r : Bool} (h : apostilleref10_Less a b = some r) : XSpec Try.prog 38 [.agg (c_TPoint a), .agg (c_TPoint b)] [] (B r) [] [] := by
  unfold apostilleref10_Less at h
  refine X_of_run Try.hU Try.func38 (fun _ _ _ hB => ?_)
  refine k_seq ?_
  refine k_reg ?_
  refine l_box ?_
  refine l_box ?_
  refine l_assign ?_
  refine k_nil ?_
  refine f_t ?_
  refine k_seq ?_
  refine k_seq ?_
  refine k_reg ?_
  refine l_fieldAddr ?_
  refine l_load ?_
  refine l_fieldAddr ?_
  refine l_load ?_
  refine l_cmp ?_
  refine k_nil ?_
  refine f_t ?_
  refine k_if h (fun _ h => ?_) (fun _ h => ?_)
  · refine k_seq ?_
    refine k_reg ?_
    refine l_fieldAddr ?_
    refine l_load ?_
    refine l_fieldAddr ?_
    refine l_load ?_
    refine l_cmp ?_
    refine l_assign ?_
    refine k_nil ?_
    refine f_t ?_
    refine k_retc ?_
    refine f_tr ?_
    apply k_ret [] hB h
  refine k_skip ?_
  refine f_t ?_
  refine k_seq ?_
  refine k_seq ?_
  refine k_reg ?_
  refine l_fieldAddr ?_
  refine l_load ?_
  refine l_fieldAddr ?_
  refine l_load ?_
  refine l_cmp ?_
  refine k_nil ?_
  refine f_t ?_
  refine k_if h (fun _ h => ?_) (fun _ h => ?_)
  · refine k_seq ?_
    refine k_reg ?_
    refine l_fieldAddr ?_
    refine l_load ?_
    refine l_fieldAddr ?_
    refine l_load ?_
    refine l_cmp ?_
    refine l_assign ?_
    refine k_nil ?_
    refine f_t ?_
    refine k_retc ?_
    refine f_tr ?_
    apply k_ret [] hB h
  refine k_skip ?_
  refine f_t ?_
  refine k_seq ?_
  refine k_reg ?_
  refine l_fieldAddr ?_
  refine l_load ?_
  refine l_fieldAddr ?_
  refine l_load ?_
  refine l_cmp ?_
  refine l_assign ?_
  refine k_nil ?_
  refine f_t ?_
  refine k_retc ?_
  apply k_ret [] hB h
theorem apostilleref11_Of_ok {l : (List TPoint)} {r : (List TPoint)} (h : apostilleref11_Of l = some r) : XSpec Try.prog 19 [.vs l.length (F c_TPoint l)] [] (.sl 1 0 r.length) [(1, .row 3 0 (F c_TPoint r))] [] := by
  unfold apostilleref11_Of at h
  refine X_of_run Try.hU Try.func19 (fun _ _ _ hB => ?_)
  refine k_seq ?_
  refine k_reg ?_
  refine l_assign ?_
  refine k_nil ?_
  refine f_t ?_
  refine k_seq ?_
  refine k_reg ?_
  refine l_assign ?_
  refine k_nil ?_
  refine f_t ?_
  refine k_seq ?_
  refine k_seq ?_
  refine k_reg ?_
  refine l_move ?_
  refine l_len ?_
  refine l_move ?_
  refine k_nil ?_
  refine f_t ?_
  refine k_block ?_
  refine k_nilrow (t := 3) 3003 3 ?_
  refine k_loop (fun y1 => ⟨[(0, .vs l.length (F c_TPoint l)), (3, .sl 3003 0 y1.2.length), (7, I (l.length : Int)), (8, I y1.1)], [(3003, .row 3 0 (F c_TPoint y1.2))], []⟩) (fun q17 => (.exit 0, ⟨[(3, .sl 3003 0 q17.length)], [(3003, .row 3 0 (F c_TPoint q17))], []⟩)) [(3003, 3003)] hB h (fun y1 t h => ?_) (fun q17 h => ?_)
  · unfold apostilleref11_Of_b1 at h
    refine k_seq ?_
    refine k_reg ?_
    refine l_cmp ?_
    refine k_nil ?_
    refine f_t ?_
    refine k_seq ?_
    refine k_if h (fun _ h => ?_) (fun _ h => ?_)
    · refine k_skip ?_
      refine f_t ?_
      refine k_seq ?_
      refine k_block ?_
      refine k_seq ?_
      refine k_reg ?_
      refine l_move ?_
      refine l_assign ?_
      refine k_nil ?_
      refine f_t ?_
      refine k_seq ?_
      refine k_reg ?_
      refine l_assign ?_
      refine k_nil ?_
      refine f_t ?_
      refine k_seq ?_
      refine k_block ?_
      refine k_loop (fun y2 => ⟨[(0, .vs l.length (F c_TPoint l)), (3, .sl 3003 0 y1.2.length), (4, I y1.1), (5, I y2), (7, I (l.length : Int)), (8, I y1.1)], [(3003, .row 3 0 (F c_TPoint y1.2))], []⟩) (fun q6 => (.exit 2, ⟨[(0, .vs l.length (F c_TPoint l)), (3, .sl 3003 0 y1.2.length), (4, I y1.1), (5, I q6), (7, I (l.length : Int)), (8, I y1.1)], [(3003, .row 3 0 (F c_TPoint y1.2))], []⟩)) [(3003, 3003)] hB h (fun y2 t h => ?_) (fun q6 h => ?_)
      · unfold apostilleref11_Of_b2 at h
        refine k_seq ?_
        refine k_seq ?_
        refine k_mix [] (.q 0 (.q 1 (.q 2 (.q 3 (.q 4 (.q 5 (.q 6 (.q 7 (.q 8 (.q 9 (.q 10 (.q 11 (.q 12 (.e 13 (.q 14 (.done)))))))))))))))) hm ?_
        refine gq ?_
        refine n_move ?_
        refine gq ?_
        refine n_move ?_
        refine gq ?_
        refine n_len ?_
        refine gq ?_
        refine n_cmp ?_
        refine gq ?_
        refine n_move ?_
        refine gq ?_
        refine n_split h (fun _ h => ?_) (fun _ h => ?_)
        · refine n_on ?_
          refine n_move ?_
          refine gq ?_
          refine n_on ?_
          refine n_move ?_
          refine gq ?_
          refine n_on ?_
          refine n_ato h (fun v3 ev3 h => ?_)
          refine gq ?_
          refine n_on ?_
          refine n_ldra ev3 ?_
          refine gq ?_
          refine n_on ?_
          refine n_move ?_
          refine gq ?_
          refine n_on ?_
          refine n_move ?_
          refine gq ?_
          refine n_on ?_
          refine n_at h (fun v4 _ h => ?_)
          refine gq ?_
          refine n_on ?_
          refine n_load_agg ?_
          refine ge ?_
          refine n_on ?_
          refine n_call h (fun _ => apostilleref10_Less_ok) (fun v5 _ h => ?_)
          refine gq ?_
          refine n_pick_true ?_
          refine m_nil ?_
          refine f_t ?_
          refine k_if h (fun _ h => ?_) (fun _ h => ?_)
          · refine k_skip ?_
            refine f_t ?_
            refine k_block ?_
            refine k_reg ?_
            refine l_move ?_
            refine l_addw ?_
            refine l_assign ?_
            refine k_nil ?_
            refine f_b ?_
            exact k_next [(3003, 3003)] hB h
          refine k_exit ?_
          refine f_te ?_
          exact k_brk [(3003, 3003)] hB h
        refine n_off ?_
        refine gq ?_
        refine n_off ?_
        refine gq ?_
        refine n_off ?_
        refine gq ?_
        refine n_off ?_
        refine gq ?_
        refine n_off ?_
        refine gq ?_
        refine n_off ?_
        refine gq ?_
        refine n_off ?_
        refine gq ?_
        refine n_off ?_
        refine ge ?_
        refine n_off ?_
        refine gq ?_
        refine n_pick_false ?_
        refine m_nil ?_
        refine f_t ?_
        refine k_f ?_
        refine k_exit ?_
        refine f_te ?_
        exact k_brk [(3003, 3003)] hB h
      refine f_be ?_
      refine f_t ?_
      refine k_seq ?_
      refine k_seq ?_
      refine k_mix [] (.q 0 (.q 1 (.q 2 (.q 3 (.q 4 (.q 5 (.q 6 (.q 7 (.q 8 (.q 9 (.q 10 (.q 11 (.q 12 (.q 13 (.q 14 (.done)))))))))))))))) hm ?_
      refine gq ?_
      refine n_move ?_
      refine gq ?_
      refine n_move ?_
      refine gq ?_
      refine n_len ?_
      refine gq ?_
      refine n_cmp ?_
      refine gq ?_
      refine n_move ?_
      refine gq ?_
      refine n_split h (fun _ h => ?_) (fun _ h => ?_)
      · refine n_on ?_
        refine n_move ?_
        refine gq ?_
        refine n_on ?_
        refine n_move ?_
        refine gq ?_
        refine n_on ?_
        refine n_ato h (fun v7 ev7 h => ?_)
        refine gq ?_
        refine n_on ?_
        refine n_ldra ev7 ?_
        refine gq ?_
        refine n_on ?_
        refine n_move ?_
        refine gq ?_
        refine n_on ?_
        refine n_move ?_
        refine gq ?_
        refine n_on ?_
        refine n_at h (fun v8 _ h => ?_)
        refine gq ?_
        refine n_on ?_
        refine n_load_agg ?_
        refine gq ?_
        refine n_on ?_
        refine n_eqs (k := .i64) (TPoint.ints v7) (TPoint.ints v8) hs62 he62 ?_
        refine gq ?_
        refine n_pick_true ?_
        refine m_nil ?_
        refine f_t ?_
        refine k_if h (fun _ h => ?_) (fun _ h => ?_)
        · refine k_exit ?_
          refine f_te ?_
          refine f_be ?_
          refine f_t ?_
          refine k_reg ?_
          refine l_addw ?_
          refine l_move ?_
          refine k_nil ?_
          exact k_next [(3003, 3003)] hB h
        refine k_skip ?_
        refine f_t ?_
        refine k_mix [4, 10, 14] (.q 1 (.q 2 (.q 3 (.s 5 (.s 6 (.s 7 (.s 11 (.s 12 (.s 13 (.alt 0 (.alt 4 (.q 8 (.e 9 (.e 10 (.e 14 (.q 15 (.done)))))) (.e 8 (.alt 4 (.e 9 (.e 10 (.e 14 (.q 15 (.done))))) (.e 9 (.e 4 (.e 10 (.e 14 (.q 15 (.done))))))))) (.e 8 (.alt 0 (.alt 4 (.e 9 (.e 10 (.e 14 (.q 15 (.done))))) (.e 9 (.e 4 (.e 10 (.e 14 (.q 15 (.done))))))) (.e 9 (.e 0 (.e 4 (.e 10 (.e 14 (.q 15 (.done))))))))))))))))))) hm ?_
        refine gq ?_
        refine n_move ?_
        refine gq ?_
        refine n_move ?_
        refine gq ?_
        refine n_subp h (fun h => ?_)
        refine gs ?_
        refine x_move ?_
        refine gs ?_
        refine x_move ?_
        refine gs ?_
        refine x_at h (fun v9 _ h => ?_)
        refine gs ?_
        refine x_move ?_
        refine gs ?_
        refine x_move ?_
        refine gs ?_
        refine x_sub0 h (fun h => ?_)
        refine m_alt ?_ ?_
        · refine ge ?_
          refine n_buildSlice0 ?_
          refine m_alt ?_ ?_
          · refine ge ?_
            refine n_app0 h (fun v10 h => ?_)
            refine gq ?_
            refine n_load_agg ?_
            refine ge ?_
            refine n_lit (e := c_TPoint) [v9] ?_
            refine ge ?_
            refine n_appo h (fun v11 _ h => ?_)
            refine ge ?_
            refine n_appq (q := q6.toNat) h (fun v12 h => ?_)
            refine gq ?_
            refine n_assign ?_
            refine m_nil ?_
            refine f_b ?_
            refine f_t ?_
            refine k_reg ?_
            refine l_addw ?_
            refine l_move ?_
            refine k_nil ?_
            exact k_next [(1043, 3003)] hB h
          refine geq ?_
          refine n_load_agg ?_
          refine m_alt ?_ ?_
          · refine ge ?_
            refine n_app0 h (fun v10 h => ?_)
            refine ge ?_
            refine n_lit (e := c_TPoint) [v9] ?_
            refine ge ?_
            refine n_appo h (fun v11 _ h => ?_)
            refine ge ?_
            refine n_appq (q := q6.toNat) h (fun v12 h => ?_)
            refine gq ?_
            refine n_assign ?_
            refine m_nil ?_
            refine f_b ?_
            refine f_t ?_
            refine k_reg ?_
            refine l_addw ?_
            refine l_move ?_
            refine k_nil ?_
            exact k_next [(1043, 3003)] hB h
          refine ge ?_
          refine n_lit (e := c_TPoint) [v9] ?_
          refine ge ?_
          refine n_app0 h (fun v10 h => ?_)
          refine ge ?_
          refine n_appo h (fun v11 _ h => ?_)
          refine ge ?_
          refine n_appq (q := q6.toNat) h (fun v12 h => ?_)
          refine gq ?_
          refine n_assign ?_
          refine m_nil ?_
          refine f_b ?_
          refine f_t ?_
          refine k_reg ?_
          refine l_addw ?_
          refine l_move ?_
          refine k_nil ?_
          exact k_next [(1043, 3003)] hB h
        refine geq ?_
        refine n_load_agg ?_
        refine m_alt ?_ ?_
        · refine ge ?_
          refine n_buildSlice0 ?_
          refine m_alt ?_ ?_
          · refine ge ?_
            refine n_app0 h (fun v10 h => ?_)
            refine ge ?_
            refine n_lit (e := c_TPoint) [v9] ?_
            refine ge ?_
            refine n_appo h (fun v11 _ h => ?_)
            refine ge ?_
            refine n_appq (q := q6.toNat) h (fun v12 h => ?_)
            refine gq ?_
            refine n_assign ?_
            refine m_nil ?_
            refine f_b ?_
            refine f_t ?_
            refine k_reg ?_
            refine l_addw ?_
            refine l_move ?_
            refine k_nil ?_
            exact k_next [(1043, 3003)] hB h
          refine ge ?_
          refine n_lit (e := c_TPoint) [v9] ?_
          refine ge ?_
          refine n_app0 h (fun v10 h => ?_)
          refine ge ?_
          refine n_appo h (fun v11 _ h => ?_)
          refine ge ?_
          refine n_appq (q := q6.toNat) h (fun v12 h => ?_)
          refine gq ?_
          refine n_assign ?_
          refine m_nil ?_
          refine f_b ?_
          refine f_t ?_
          refine k_reg ?_
          refine l_addw ?_
          refine l_move ?_
          refine k_nil ?_
          exact k_next [(1043, 3003)] hB h
        refine ge ?_
        refine n_lit (e := c_TPoint) [v9] ?_
        refine ge ?_
        refine n_buildSlice0 ?_
        refine ge ?_
        refine n_app0 h (fun v10 h => ?_)
        refine ge ?_
        refine n_appo h (fun v11 _ h => ?_)
        refine ge ?_
        refine n_appq (q := q6.toNat) h (fun v12 h => ?_)
        refine gq ?_
        refine n_assign ?_
        refine m_nil ?_
        refine f_b ?_
        refine f_t ?_
        refine k_reg ?_
        refine l_addw ?_
        refine l_move ?_
        refine k_nil ?_
        exact k_next [(1043, 3003)] hB h
      refine n_off ?_
      refine gq ?_
      refine n_off ?_
      refine gq ?_
      refine n_off ?_
      refine gq ?_
      refine n_off ?_
      refine gq ?_
      refine n_off ?_
      refine gq ?_
      refine n_off ?_
      refine gq ?_
      refine n_off ?_
      refine gq ?_
      refine n_off ?_
      refine gq ?_
      refine n_off ?_
      refine gq ?_
      refine n_pick_false ?_
      refine m_nil ?_
      refine f_t ?_
      refine k_f ?_
      refine k_skip ?_
      refine f_t ?_
      refine k_mix [4, 10, 14] (.q 1 (.q 2 (.q 3 (.s 5 (.s 6 (.s 7 (.s 11 (.s 12 (.s 13 (.alt 0 (.alt 4 (.q 8 (.e 9 (.e 10 (.e 14 (.q 15 (.done)))))) (.e 8 (.alt 4 (.e 9 (.e 10 (.e 14 (.q 15 (.done))))) (.e 9 (.e 4 (.e 10 (.e 14 (.q 15 (.done))))))))) (.e 8 (.alt 0 (.alt 4 (.e 9 (.e 10 (.e 14 (.q 15 (.done))))) (.e 9 (.e 4 (.e 10 (.e 14 (.q 15 (.done))))))) (.e 9 (.e 0 (.e 4 (.e 10 (.e 14 (.q 15 (.done))))))))))))))))))) hm ?_
      refine gq ?_
      refine n_move ?_
      refine gq ?_
      refine n_move ?_
      refine gq ?_
      refine n_subp h (fun h => ?_)
      refine gs ?_
      refine x_move ?_
      refine gs ?_
      refine x_move ?_
      refine gs ?_
      refine x_at h (fun v13 _ h => ?_)
      refine gs ?_
      refine x_move ?_
      refine gs ?_
      refine x_move ?_
      refine gs ?_
      refine x_sub0 h (fun h => ?_)
      refine m_alt ?_ ?_
      · refine ge ?_
        refine n_buildSlice0 ?_
        refine m_alt ?_ ?_
        · refine ge ?_
          refine n_app0 h (fun v14 h => ?_)
          refine gq ?_
          refine n_load_agg ?_
          refine ge ?_
          refine n_lit (e := c_TPoint) [v13] ?_
          refine ge ?_
          refine n_appo h (fun v15 _ h => ?_)
          refine ge ?_
          refine n_appq (q := q6.toNat) h (fun v16 h => ?_)
          refine gq ?_
          refine n_assign ?_
          refine m_nil ?_
          refine f_b ?_
          refine f_t ?_
          refine k_reg ?_
          refine l_addw ?_
          refine l_move ?_
          refine k_nil ?_
          exact k_next [(1043, 3003)] hB h
        refine geq ?_
        refine n_load_agg ?_
        refine m_alt ?_ ?_
        · refine ge ?_
          refine n_app0 h (fun v14 h => ?_)
          refine ge ?_
          refine n_lit (e := c_TPoint) [v13] ?_
          refine ge ?_
          refine n_appo h (fun v15 _ h => ?_)
          refine ge ?_
          refine n_appq (q := q6.toNat) h (fun v16 h => ?_)
          refine gq ?_
          refine n_assign ?_
          refine m_nil ?_
          refine f_b ?_
          refine f_t ?_
          refine k_reg ?_
          refine l_addw ?_
          refine l_move ?_
          refine k_nil ?_
          exact k_next [(1043, 3003)] hB h
        refine ge ?_
        refine n_lit (e := c_TPoint) [v13] ?_
        refine ge ?_
        refine n_app0 h (fun v14 h => ?_)
        refine ge ?_
        refine n_appo h (fun v15 _ h => ?_)
        refine ge ?_
        refine n_appq (q := q6.toNat) h (fun v16 h => ?_)
        refine gq ?_
        refine n_assign ?_
        refine m_nil ?_
        refine f_b ?_
        refine f_t ?_
        refine k_reg ?_
        refine l_addw ?_
        refine l_move ?_
        refine k_nil ?_
        exact k_next [(1043, 3003)] hB h
      refine geq ?_
      refine n_load_agg ?_
      refine m_alt ?_ ?_
      · refine ge ?_
        refine n_buildSlice0 ?_
        refine m_alt ?_ ?_
        · refine ge ?_
          refine n_app0 h (fun v14 h => ?_)
          refine ge ?_
          refine n_lit (e := c_TPoint) [v13] ?_
          refine ge ?_
          refine n_appo h (fun v15 _ h => ?_)
          refine ge ?_
          refine n_appq (q := q6.toNat) h (fun v16 h => ?_)
          refine gq ?_
          refine n_assign ?_
          refine m_nil ?_
          refine f_b ?_
          refine f_t ?_
          refine k_reg ?_
          refine l_addw ?_
          refine l_move ?_
          refine k_nil ?_
          exact k_next [(1043, 3003)] hB h
        refine ge ?_
        refine n_lit (e := c_TPoint) [v13] ?_
        refine ge ?_
        refine n_app0 h (fun v14 h => ?_)
        refine ge ?_
        refine n_appo h (fun v15 _ h => ?_)
        refine ge ?_
        refine n_appq (q := q6.toNat) h (fun v16 h => ?_)
        refine gq ?_
        refine n_assign ?_
        refine m_nil ?_
        refine f_b ?_
        refine f_t ?_
        refine k_reg ?_
        refine l_addw ?_
        refine l_move ?_
        refine k_nil ?_
        exact k_next [(1043, 3003)] hB h
      refine ge ?_
      refine n_lit (e := c_TPoint) [v13] ?_
      refine ge ?_
      refine n_buildSlice0 ?_
      refine ge ?_
      refine n_app0 h (fun v14 h => ?_)
      refine ge ?_
      refine n_appo h (fun v15 _ h => ?_)
      refine ge ?_
      refine n_appq (q := q6.toNat) h (fun v16 h => ?_)
      refine gq ?_
      refine n_assign ?_
      refine m_nil ?_
      refine f_b ?_
      refine f_t ?_
      refine k_reg ?_
      refine l_addw ?_
      refine l_move ?_
      refine k_nil ?_
      exact k_next [(1043, 3003)] hB h
    refine k_exit ?_
    refine f_te ?_
    exact k_brk [(3003, 3003)] hB h
  refine f_be ?_
  refine f_t ?_
  refine k_seq ?_
  refine k_reg ?_
  refine l_move ?_
  refine l_assign ?_
  refine k_nil ?_
  refine f_t ?_
  refine k_retc ?_
  apply k_ret [(3003, 1)] hB h
theorem apostilleref10_Same_ok {a : (List TPoint)} {b : (List TPoint)} {r : Bool} (h : apostilleref10_Same a b = some r) : XSpec Try.prog 20 [.vs a.length (F c_TPoint a), .vs b.length (F c_TPoint b)] [] (B r) [] [] := by
  unfold apostilleref10_Same at h
  refine X_of_run Try.hU Try.func20 (fun _ _ _ hB => ?_)
  refine k_seq ?_
  refine k_reg ?_
  refine l_assign ?_
  refine k_nil ?_
  refine f_t ?_
  refine k_seq ?_
  refine k_seq ?_
  refine k_reg ?_
  refine l_move ?_
  refine l_len ?_
  refine l_move ?_
  refine l_len ?_
  refine l_cmp ?_
  refine k_nil ?_
  refine f_t ?_
  refine k_if h (fun _ h => ?_) (fun _ h => ?_)
  · refine k_seq ?_
    refine k_reg ?_
    refine l_assign ?_
    refine k_nil ?_
    refine f_t ?_
    refine k_retc ?_
    refine f_tr ?_
    apply k_ret [] hB h
  refine k_skip ?_
  refine f_t ?_
  refine k_seq ?_
  refine k_seq ?_
  refine k_reg ?_
  refine l_move ?_
  refine l_len ?_
  refine l_move ?_
  refine k_nil ?_
  refine f_t ?_
  refine k_block ?_
  refine k_loop (fun y1 => ⟨[(0, .vs a.length (F c_TPoint a)), (1, .vs b.length (F c_TPoint b)), (12, I (a.length : Int)), (13, I y1)], [], []⟩) (Sum.elim (fun q4 => (.ret, ⟨[(4, B false)], [], []⟩)) (fun q5 => (.exit 0, ⟨[], [], []⟩))) [] hB h (fun y1 t h => ?_) (fun q h => ?_)
  · unfold apostilleref10_Same_b1 at h
    refine k_seq ?_
    refine k_reg ?_
    refine l_cmp ?_
    refine k_nil ?_
    refine f_t ?_
    refine k_seq ?_
    refine k_if h (fun _ h => ?_) (fun _ h => ?_)
    · refine k_skip ?_
      refine f_t ?_
      refine k_seq ?_
      refine k_block ?_
      refine k_seq ?_
      refine k_reg ?_
      refine l_move ?_
      refine l_assign ?_
      refine k_nil ?_
      refine f_t ?_
      refine k_seq ?_
      refine k_mix [] (.q 0 (.q 1 (.q 2 (.q 3 (.q 4 (.q 5 (.q 6 (.q 7 (.q 8 (.done)))))))))) hm ?_
      refine gq ?_
      refine n_move ?_
      refine gq ?_
      refine n_move ?_
      refine gq ?_
      refine n_at h (fun v2 _ h => ?_)
      refine gq ?_
      refine n_load_agg ?_
      refine gq ?_
      refine n_move ?_
      refine gq ?_
      refine n_move ?_
      refine gq ?_
      refine n_at h (fun v3 _ h => ?_)
      refine gq ?_
      refine n_load_agg ?_
      refine gq ?_
      refine n_eqs (k := .i64) (TPoint.ints v2) (TPoint.ints v3) hs62 he62 ?_
      refine m_nil ?_
      refine f_t ?_
      refine k_if h (fun _ h => ?_) (fun _ h => ?_)
      · refine k_seq ?_
        refine k_reg ?_
        refine l_assign ?_
        refine k_nil ?_
        refine f_t ?_
        refine k_retc ?_
        refine f_br ?_
        refine f_tr ?_
        exact k_brk [] hB h
      refine k_skip ?_
      refine f_b ?_
      refine f_t ?_
      refine k_reg ?_
      refine l_addw ?_
      refine l_move ?_
      refine k_nil ?_
      exact k_next [] hB h
    refine k_exit ?_
    refine f_te ?_
    exact k_brk [] hB h
  rcases q with q4 | q5
  · dsimp only [Sum.elim] at h ⊢
    refine f_br ?_
    refine f_tr ?_
    apply k_ret [] hB h
  dsimp only [Sum.elim] at h ⊢
  refine f_be ?_
  refine f_t ?_
  refine k_seq ?_
  refine k_reg ?_
  refine l_assign ?_
  refine k_nil ?_
  refine f_t ?_
  refine k_retc ?_
  apply k_ret [] hB h
theorem apostilleref10_In_ok {l : (List TPoint)} {p : TPoint} {r : Bool} (h : apostilleref10_In l p = some r) : XSpec Try.prog 23 [.vs l.length (F c_TPoint l), .agg (c_TPoint p)] [] (B r) [] [] := by
  unfold apostilleref10_In at h
  refine X_of_run Try.hU Try.func23 (fun _ _ _ hB => ?_)
  refine k_seq ?_
  refine k_reg ?_
  refine l_box ?_
  refine l_assign ?_
  refine k_nil ?_
  refine f_t ?_
  refine k_seq ?_
  refine k_seq ?_
  refine k_reg ?_
  refine l_move ?_
  refine l_len ?_
  refine l_move ?_
  refine k_nil ?_
  refine f_t ?_
  refine k_block ?_
  refine k_loop (fun y1 => ⟨[(0, .vs l.length (F c_TPoint l)), (3, .ptr 1003 0), (7, I (l.length : Int)), (8, I y1)], [(1003, .box [I p.N, I p.Part, I p.I])], []⟩) (Sum.elim (fun q3 => (.ret, ⟨[(4, B true)], [], []⟩)) (fun q4 => (.exit 0, ⟨[], [], []⟩))) [(1003, 1003)] hB h (fun y1 t h => ?_) (fun q h => ?_)
  · unfold apostilleref10_In_b1 at h
    refine k_seq ?_
    refine k_reg ?_
    refine l_cmp ?_
    refine k_nil ?_
    refine f_t ?_
    refine k_seq ?_
    refine k_if h (fun _ h => ?_) (fun _ h => ?_)
    · refine k_skip ?_
      refine f_t ?_
      refine k_seq ?_
      refine k_block ?_
      refine k_seq ?_
      refine k_reg ?_
      refine l_move ?_
      refine l_assign ?_
      refine k_nil ?_
      refine f_t ?_
      refine k_seq ?_
      refine k_mix [] (.q 0 (.q 1 (.q 2 (.q 3 (.q 4 (.q 5 (.done))))))) hm ?_
      refine gq ?_
      refine n_move ?_
      refine gq ?_
      refine n_move ?_
      refine gq ?_
      refine n_at h (fun v2 _ h => ?_)
      refine gq ?_
      refine n_load_agg ?_
      refine gq ?_
      refine n_load_agg ?_
      refine gq ?_
      refine n_eqs (k := .i64) (TPoint.ints v2) (TPoint.ints p) hs62 he62 ?_
      refine m_nil ?_
      refine f_t ?_
      refine k_if h (fun _ h => ?_) (fun _ h => ?_)
      · refine k_seq ?_
        refine k_reg ?_
        refine l_assign ?_
        refine k_nil ?_
        refine f_t ?_
        refine k_retc ?_
        refine f_br ?_
        refine f_tr ?_
        exact k_brk [] hB h
      refine k_skip ?_
      refine f_b ?_
      refine f_t ?_
      refine k_reg ?_
      refine l_addw ?_
      refine l_move ?_
      refine k_nil ?_
      exact k_next [(1003, 1003)] hB h
    refine k_exit ?_
    refine f_te ?_
    exact k_brk [] hB h
  rcases q with q3 | q4
  · dsimp only [Sum.elim] at h ⊢
    refine f_br ?_
    refine f_tr ?_
    apply k_ret [] hB h
  dsimp only [Sum.elim] at h ⊢
  refine f_be ?_
  refine f_t ?_
  refine k_seq ?_
  refine k_reg ?_
  refine l_assign ?_
  refine k_nil ?_
  refine f_t ?_
  refine k_retc ?_
  apply k_ret [] hB h
theorem apostillelaw11_NodesSets_ok {l : (List TPoint)} {p : TPoint} {r : Bool} (h : apostillelaw11_NodesSets l p = some r) : XSpec Try.prog 6 [.vs l.length (F c_TPoint l), .agg (c_TPoint p)] [] (B r) [] [] := by
  unfold apostillelaw11_NodesSets at h
  refine X_of_run Try.hU Try.func6 (fun _ _ _ hB => ?_)
  refine k_seq ?_
  refine k_reg ?_
  refine l_box ?_
  refine l_assign ?_
  refine k_nil ?_
  refine f_t ?_
  refine k_seq ?_
  refine k_seq ?_
  refine k_cut (fun q2 => (.normal, ⟨[(0, .vs l.length (F c_TPoint l)), (3, .ptr 1003 0), (14, B q2)], [(1003, .box [I p.N, I p.Part, I p.I])], []⟩)) h (fun t h => ?_) (fun q2 h => ?_)
  · refine k_reg ?_
    refine l_call h (fun _ => apostillelaw11_awake_ok) (fun v1 _ h => ?_)
    refine l_un ?_
    refine l_move ?_
    refine l_split h (fun _ h => ?_) (fun _ h => ?_)
    · refine l_off ?_
      refine l_off ?_
      refine l_off ?_
      refine l_pick_true ?_
      refine k_nil ?_
      exact k_out [(1003, 1003)] hB h
    refine l_on ?_
    refine l_move ?_
    refine l_on ?_
    refine l_len ?_
    refine l_on ?_
    refine l_cmp ?_
    refine l_pick_false ?_
    refine k_nil ?_
    exact k_out [(1003, 1003)] hB h
  refine f_t ?_
  refine k_if h (fun _ h => ?_) (fun _ h => ?_)
  · refine k_seq ?_
    refine k_reg ?_
    refine l_call h (fun _ => apostillelaw11_awake_ok) (fun v3 _ h => ?_)
    refine l_assign ?_
    refine k_nil ?_
    refine f_t ?_
    refine k_retc ?_
    refine f_tr ?_
    apply k_ret [] hB h
  refine k_skip ?_
  refine f_t ?_
  refine k_seq ?_
  refine k_reg ?_
  refine l_buildSlice0 ?_
  refine l_move ?_
  refine l_appf h (fun v4 _ h => ?_)
  refine l_assign ?_
  refine k_nil ?_
  refine f_t ?_
  refine k_seq ?_
  refine k_reg ?_
  refine l_move ?_
  refine l_callX [(1, 102001)] [] h (fun _ => nodes_Of_ok) (fun v5 _ h => ?_)
  refine l_assign ?_
  refine k_nil ?_
  refine f_t ?_
  refine k_seq ?_
  refine k_reg ?_
  refine l_move ?_
  refine l_callX [(1, 102201)] [] h (fun _ => apostilleref11_Of_ok) (fun v6 _ h => ?_)
  refine l_assign ?_
  refine k_nil ?_
  refine f_t ?_
  refine k_seq ?_
  refine k_mix [] (.q 0 (.q 1 (.e 2 (.q 3 (.q 4 (.q 5 (.e 6 (.q 7 (.q 8 (.q 9 (.e 10 (.q 11 (.q 12 (.q 13 (.q 15 (.q 16 (.e 14 (.e 17 (.q 18 (.q 19 (.q 20 (.q 21 (.q 22 (.q 24 (.q 25 (.e 23 (.e 26 (.q 27 (.q 28 (.q 29 (.done))))))))))))))))))))))))))))))) hm ?_
  refine gq ?_
  refine n_move ?_
  refine gq ?_
  refine n_move ?_
  refine ge ?_
  refine n_callB h (fun _ => apostilleref10_Same_ok) (fun v7 _ h => ?_)
  refine gq ?_
  refine n_move ?_
  refine gq ?_
  refine n_split h (fun _ h => ?_) (fun _ h => ?_)
  · refine n_on ?_
    refine n_move ?_
    refine gq ?_
    refine n_on ?_
    refine n_move ?_
    refine ge ?_
    refine n_on ?_
    refine n_callB h (fun _ => apostilleref10_Same_ok) (fun v8 _ h => ?_)
    refine gq ?_
    refine n_pick_true ?_
    refine gq ?_
    refine n_move ?_
    refine gq ?_
    refine n_split h (fun _ h => ?_) (fun _ h => ?_)
    · refine n_on ?_
      refine n_move ?_
      refine ge ?_
      refine n_on ?_
      refine n_callB h (fun _ => nodes_Is_ok) (fun v9 _ h => ?_)
      refine gq ?_
      refine n_pick_true ?_
      refine gq ?_
      refine n_move ?_
      refine gq ?_
      refine n_split h (fun _ h => ?_) (fun _ h => ?_)
      · refine n_on ?_
        refine n_move ?_
        refine gq ?_
        refine n_on ?_
        refine n_move ?_
        refine gq ?_
        refine n_on ?_
        refine n_move ?_
        refine ge ?_
        refine n_on ?_
        refine n_call h (fun _ => nodes_Is_ok) (fun v10 _ h => ?_)
        refine ge ?_
        refine n_on ?_
        refine n_callB h (fun _ => apostilleref10_Same_ok) (fun v11 _ h => ?_)
        refine gq ?_
        refine n_on ?_
        refine n_bool ?_
        refine gq ?_
        refine n_pick_true ?_
        refine gq ?_
        refine n_move ?_
        refine gq ?_
        refine n_split h (fun _ h => ?_) (fun _ h => ?_)
        · refine n_on ?_
          refine n_move ?_
          refine gq ?_
          refine n_on ?_
          refine n_load_agg ?_
          refine gq ?_
          refine n_on ?_
          refine n_move ?_
          refine gq ?_
          refine n_on ?_
          refine n_load_agg ?_
          refine ge ?_
          refine n_on ?_
          refine n_call h (fun _ => nodes_Has_ok) (fun v12 _ h => ?_)
          refine ge ?_
          refine n_on ?_
          refine n_call h (fun _ => apostilleref10_In_ok) (fun v13 _ h => ?_)
          refine gq ?_
          refine n_on ?_
          refine n_bool ?_
          refine gq ?_
          refine n_pick_true ?_
          refine gq ?_
          refine n_assign ?_
          refine m_nil ?_
          refine f_t ?_
          refine k_retc ?_
          apply k_ret [] hB h
        refine n_off ?_
        refine gq ?_
        refine n_off ?_
        refine gq ?_
        refine n_off ?_
        refine gq ?_
        refine n_off ?_
        refine ge ?_
        refine n_off ?_
        refine ge ?_
        refine n_off ?_
        refine gq ?_
        refine n_off ?_
        refine gq ?_
        refine n_pick_false ?_
        refine gq ?_
        refine n_assign ?_
        refine m_nil ?_
        refine f_t ?_
        refine k_retc ?_
        apply k_ret [] hB h
      refine n_off ?_
      refine gq ?_
      refine n_off ?_
      refine gq ?_
      refine n_off ?_
      refine ge ?_
      refine n_off ?_
      refine ge ?_
      refine n_off ?_
      refine gq ?_
      refine n_off ?_
      refine gq ?_
      refine n_pick_false ?_
      refine gq ?_
      refine n_move ?_
      refine gq ?_
      refine n_off ?_
      refine gq ?_
      refine n_off ?_
      refine gq ?_
      refine n_off ?_
      refine gq ?_
      refine n_off ?_
      refine ge ?_
      refine n_off ?_
      refine ge ?_
      refine n_off ?_
      refine gq ?_
      refine n_off ?_
      refine gq ?_
      refine n_pick_false ?_
      refine gq ?_
      refine n_assign ?_
      refine m_nil ?_
      refine f_t ?_
      refine k_retc ?_
      apply k_ret [] hB h
    refine n_off ?_
    refine ge ?_
    refine n_off ?_
    refine gq ?_
    refine n_pick_false ?_
    refine gq ?_
    refine n_move ?_
    refine gq ?_
    refine n_off ?_
    refine gq ?_
    refine n_off ?_
    refine gq ?_
    refine n_off ?_
    refine ge ?_
    refine n_off ?_
    refine ge ?_
    refine n_off ?_
    refine gq ?_
    refine n_off ?_
    refine gq ?_
    refine n_pick_false ?_
    refine gq ?_
    refine n_move ?_
    refine gq ?_
    refine n_off ?_
    refine gq ?_
    refine n_off ?_
    refine gq ?_
    refine n_off ?_
    refine gq ?_
    refine n_off ?_
    refine ge ?_
    refine n_off ?_
    refine ge ?_
    refine n_off ?_
    refine gq ?_
    refine n_off ?_
    refine gq ?_
    refine n_pick_false ?_
    refine gq ?_
    refine n_assign ?_
    refine m_nil ?_
    refine f_t ?_
    refine k_retc ?_
    apply k_ret [] hB h
  refine n_off ?_
  refine gq ?_
  refine n_off ?_
  refine ge ?_
  refine n_off ?_
  refine gq ?_
  refine n_pick_false ?_
  refine gq ?_
  refine n_move ?_
  refine gq ?_
  refine n_off ?_
  refine ge ?_
  refine n_off ?_
  refine gq ?_
  refine n_pick_false ?_
  refine gq ?_
  refine n_move ?_
  refine gq ?_
  refine n_off ?_
  refine gq ?_
  refine n_off ?_
  refine gq ?_
  refine n_off ?_
  refine ge ?_
  refine n_off ?_
  refine ge ?_
  refine n_off ?_
  refine gq ?_
  refine n_off ?_
  refine gq ?_
  refine n_pick_false ?_
  refine gq ?_
  refine n_move ?_
  refine gq ?_
  refine n_off ?_
  refine gq ?_
  refine n_off ?_
  refine gq ?_
  refine n_off ?_
  refine gq ?_
  refine n_off ?_
  refine ge ?_
  refine n_off ?_
  refine ge ?_
  refine n_off ?_
  refine gq ?_
  refine n_off ?_
  refine gq ?_
  refine n_pick_false ?_
  refine gq ?_
  refine n_assign ?_
  refine m_nil ?_
  refine f_t ?_
  refine k_retc ?_
  apply k_ret [] hB h
theorem slices_Grow_Point_nil_ok {n : Int} {r : (List TPoint)} (h : slices_Grow_Point_nil n = some r) : XSpec Try.prog 49 [.pl (.slice none 0 0), I n] [] (.sl 1 0 r.length) [(1, .row 3 0 (F c_TPoint r))] [] := by
  unfold slices_Grow_Point_nil at h
  refine X_of_run Try.hU Try.func49 (fun _ _ _ hB => ?_)
  refine k_seq ?_
  refine k_reg ?_
  refine l_assign ?_
  refine k_nil ?_
  refine f_t ?_
  refine k_seq ?_
  refine k_seq ?_
  refine k_reg ?_
  refine l_move ?_
  refine l_cmp ?_
  refine k_nil ?_
  refine f_t ?_
  refine k_if h (fun _ h => ?_) (fun _ h => ?_)
  · refine k_reg ?_
    cases h
  refine k_skip ?_
  refine f_t ?_
  refine k_seq ?_
  refine k_seq ?_
  refine k_reg ?_
  refine l_move ?_
  refine l_move ?_
  refine l_capn ?_
  refine l_move ?_
  refine l_lenn ?_
  refine l_subw ?_
  refine l_subw ?_
  refine l_assign ?_
  refine k_nil ?_
  refine f_t ?_
  refine k_seq ?_
  refine k_reg ?_
  refine l_move ?_
  refine l_cmp ?_
  refine k_nil ?_
  refine f_t ?_
  refine k_if h (fun _ h => ?_) (fun _ h => ?_)
  · refine k_reg ?_
    refine l_move ?_
    refine l_move ?_
    refine l_capn ?_
    refine l_sliceNil ?_
    refine l_move ?_
    refine l_appz (e := c_TPoint) (z := (TPoint.mk 0 0 0)) h (fun v1 ev1 h => ?_)
    refine l_move ?_
    refine l_lenn ?_
    refine l_subp h (fun h => ?_)
    refine l_assign ?_
    refine k_nil ?_
    refine f_t ?_
    refine k_seq ?_
    refine k_reg ?_
    refine l_move ?_
    refine l_assign ?_
    refine k_nil ?_
    refine f_t ?_
    refine k_retc ?_
    refine f_shrink 1022 h (fun v2 ev2 h => ?_)
    refine f_relen 4 v2.length ?_
    apply k_ret [(1022, 1)] hB h
  refine k_skip ?_
  refine f_t ?_
  refine k_seq ?_
  refine k_reg ?_
  refine l_move ?_
  refine l_assign ?_
  refine k_nil ?_
  refine f_t ?_
  refine k_retc ?_
  refine f_nilrow (t := 4) 3004 3 ?_
  apply k_ret [(3004, 1)] hB h
theorem slices_Concat_Point_ok {slices : (List (List TPoint))} {r : (List TPoint)} (h : slices_Concat_Point slices = some r) : XSpec Try.prog 40 [.vs slices.length (F (cL c_TPoint) slices)] [] (.sl 1 0 r.length) [(1, .row 3 0 (F c_TPoint r))] [] := by
  unfold slices_Concat_Point at h
  refine X_of_run Try.hU Try.func40 (fun _ _ _ hB => ?_)
  refine k_seq ?_
  refine k_reg ?_
  refine l_assign ?_
  refine k_nil ?_
  refine f_t ?_
  refine k_seq ?_
  refine k_reg ?_
  refine l_assign ?_
  refine k_nil ?_
  refine f_t ?_
  refine k_seq ?_
  refine k_seq ?_
  refine k_reg ?_
  refine l_move ?_
  refine l_len ?_
  refine l_move ?_
  refine k_nil ?_
  refine f_t ?_
  refine k_block ?_
  refine k_loop (fun y1 => ⟨[(0, .vs slices.length (F (cL c_TPoint) slices)), (3, I y1.1), (9, .vs slices.length (F (cL c_TPoint) slices)), (10, I (slices.length : Int)), (11, I y1.2)], [], []⟩) (fun q3 => (.exit 0, ⟨[(0, .vs slices.length (F (cL c_TPoint) slices)), (3, I q3)], [], []⟩)) [] hB h (fun y1 t h => ?_) (fun q3 h => ?_)
  · unfold slices_Concat_Point_b1 at h
    refine k_seq ?_
    refine k_reg ?_
    refine l_cmp ?_
    refine k_nil ?_
    refine f_t ?_
    refine k_seq ?_
    refine k_if h (fun _ h => ?_) (fun _ h => ?_)
    · refine k_skip ?_
      refine f_t ?_
      refine k_seq ?_
      refine k_block ?_
      refine k_seq ?_
      refine k_reg ?_
      refine l_at h (fun v2 _ h => ?_)
      refine l_load ?_
      refine l_assign ?_
      refine k_nil ?_
      refine f_t ?_
      refine k_seq ?_
      refine k_reg ?_
      refine l_move ?_
      refine l_move ?_
      refine l_len ?_
      refine l_addw ?_
      refine l_assign ?_
      refine k_nil ?_
      refine f_t ?_
      refine k_seq ?_
      refine k_reg ?_
      refine l_move ?_
      refine l_cmp ?_
      refine k_nil ?_
      refine f_t ?_
      refine k_if h (fun _ h => ?_) (fun _ h => ?_)
      · refine k_reg ?_
        cases h
      refine k_skip ?_
      refine f_b ?_
      refine f_t ?_
      refine k_reg ?_
      refine l_addw ?_
      refine l_move ?_
      refine k_nil ?_
      exact k_next [] hB h
    refine k_exit ?_
    refine f_te ?_
    exact k_brk [] hB h
  refine f_be ?_
  refine f_t ?_
  refine k_seq ?_
  refine k_reg ?_
  refine l_move ?_
  refine l_callX [(1, 102401)] [] h (fun _ => slices_Grow_Point_nil_ok) (fun v4 _ h => ?_)
  refine l_assign ?_
  refine k_nil ?_
  refine f_t ?_
  refine k_seq ?_
  refine k_seq ?_
  refine k_reg ?_
  refine l_move ?_
  refine l_len ?_
  refine l_move ?_
  refine k_nil ?_
  refine f_t ?_
  refine k_block ?_
  refine k_loop (fun y5 => ⟨[(6, .sl 102401 0 y5.2.length), (25, .vs slices.length (F (cL c_TPoint) slices)), (26, I (slices.length : Int)), (27, I y5.1)], [(102401, .row 3 0 (F c_TPoint y5.2))], []⟩) (fun q8 => (.exit 2, ⟨[(6, .sl 102401 0 q8.length)], [(102401, .row 3 0 (F c_TPoint q8))], []⟩)) [(102401, 102401)] hB h (fun y5 t h => ?_) (fun q8 h => ?_)
  · unfold slices_Concat_Point_b2 at h
    refine k_seq ?_
    refine k_reg ?_
    refine l_cmp ?_
    refine k_nil ?_
    refine f_t ?_
    refine k_seq ?_
    refine k_if h (fun _ h => ?_) (fun _ h => ?_)
    · refine k_skip ?_
      refine f_t ?_
      refine k_seq ?_
      refine k_block ?_
      refine k_seq ?_
      refine k_reg ?_
      refine l_at h (fun v6 _ h => ?_)
      refine l_load ?_
      refine l_assign ?_
      refine k_nil ?_
      refine f_t ?_
      refine k_reg ?_
      refine l_move ?_
      refine l_move ?_
      refine l_appf h (fun v7 _ h => ?_)
      refine l_assign ?_
      refine k_nil ?_
      refine f_b ?_
      refine f_t ?_
      refine k_reg ?_
      refine l_addw ?_
      refine l_move ?_
      refine k_nil ?_
      exact k_next [(102401, 102401)] hB h
    refine k_exit ?_
    refine f_te ?_
    exact k_brk [(102401, 102401)] hB h
  refine f_be ?_
  refine f_t ?_
  refine k_seq ?_
  refine k_reg ?_
  refine l_move ?_
  refine l_assign ?_
  refine k_nil ?_
  refine f_t ?_
  refine k_retc ?_
  apply k_ret [(102401, 1)] hB h
theorem nodes_Union_ok {a : (List TPoint)} {b : (List TPoint)} {r : (List TPoint)} (h : nodes_Union a b = some r) : XSpec Try.prog 24 [.vs a.length (F c_TPoint a), .vs b.length (F c_TPoint b)] [] (.sl 1 0 r.length) [(1, .row 3 0 (F c_TPoint r))] [] := by
  unfold nodes_Union at h
  refine X_of_run Try.hU Try.func24 (fun _ _ _ hB => ?_)
  refine k_seq ?_
  refine k_reg ?_
  refine l_assign ?_
  refine k_nil ?_
  refine f_t ?_
  refine k_seq ?_
  refine k_reg ?_
  refine l_move ?_
  refine l_move ?_
  refine l_lit (e := (cL c_TPoint)) [a, b] ?_
  refine l_frz 1007 ?_
  refine l_callX [(1, 100801)] [] h (fun _ => slices_Concat_Point_ok) (fun v1 _ h => ?_)
  refine l_frz 100801 ?_
  refine l_callX [(1, 100901)] [] h (fun _ => nodes_Of_ok) (fun v2 _ h => ?_)
  refine l_assign ?_
  refine k_nil ?_
  refine f_t ?_
  refine k_retc ?_
  apply k_ret [(100901, 1)] hB h
theorem slices_BinarySearchFunc_Point_ok {x : (List TPoint)} {target : TPoint} {cmp : (TPoint → TPoint → Option Int)} {fk_cmp : Nat} {fc_cmp : List AV} (hf_cmp : ∀ {x0 : TPoint} {x1 : TPoint} {r : Int}, cmp x0 x1 = some r → XSpec Try.prog fk_cmp ((.agg (c_TPoint x0)) :: (.agg (c_TPoint x1)) :: fc_cmp) [] (I r) [] []) (hc_cmp : AV.closedL fc_cmp = true ∧ AV.onlyL [] fc_cmp = true) {r : Int × Bool} (h : slices_BinarySearchFunc_Point x target cmp = some r) : XSpec Try.prog 52 [.vs x.length (F c_TPoint x), .agg (c_TPoint target), .fn (.func fk_cmp) [] fc_cmp] [] (.tup [I r.1, B r.2]) [] [] := by
  unfold slices_BinarySearchFunc_Point at h
  refine X_of_run Try.hU Try.func52 (fun _ _ _ hB => ?_)
  refine k_seq ?_
  refine k_reg ?_
  refine l_box ?_
  refine l_assign ?_
  refine l_assign ?_
  refine k_nil ?_
  refine f_t ?_
  refine k_seq ?_
  refine k_reg ?_
  refine l_move ?_
  refine l_len ?_
  refine l_assign ?_
  refine k_nil ?_
  refine f_t ?_
  refine k_seq ?_
  refine k_reg ?_
  refine l_move ?_
  refine l_assign ?_
  refine l_assign ?_
  refine k_nil ?_
  refine f_t ?_
  refine k_seq ?_
  refine k_block ?_
  refine k_loop (fun y1 => ⟨[(0, .vs x.length (F c_TPoint x)), (2, .fn (.func fk_cmp) [] fc_cmp), (4, .ptr 1004 0), (8, I (x.length : Int)), (9, I y1.1), (10, I y1.2)], [(1004, .box [I target.N, I target.Part, I target.I])], []⟩) (fun q4 => (.exit 0, ⟨[(0, .vs x.length (F c_TPoint x)), (2, .fn (.func fk_cmp) [] fc_cmp), (4, .ptr 1004 0), (8, I (x.length : Int)), (9, I q4)], [(1004, .box [I target.N, I target.Part, I target.I])], []⟩)) [(1004, 1004)] hB h (fun y1 t h => ?_) (fun q4 h => ?_)
  · unfold slices_BinarySearchFunc_Point_b1 at h
    refine k_seq ?_
    refine k_seq ?_
    refine k_reg ?_
    refine l_move ?_
    refine l_move ?_
    refine l_cmp ?_
    refine k_nil ?_
    refine f_t ?_
    refine k_if h (fun _ h => ?_) (fun _ h => ?_)
    · refine k_skip ?_
      refine f_t ?_
      refine k_block ?_
      refine k_seq ?_
      refine k_reg ?_
      refine l_move ?_
      refine l_move ?_
      refine l_addw ?_
      refine l_conv_int ?_
      refine l_shrC (r := ((v64 (w64 (y1.1 + y1.2))).fdiv (2 ^ 1))) ?_
      refine l_conv_int ?_
      refine l_assign ?_
      refine k_nil ?_
      refine f_t ?_
      refine k_seq ?_
      refine k_mix [] (.q 0 (.q 1 (.q 2 (.q 3 (.q 4 (.q 5 (.e 6 (.q 7 (.done))))))))) hm ?_
      refine gq ?_
      refine n_move ?_
      refine gq ?_
      refine n_move ?_
      refine gq ?_
      refine n_move ?_
      refine gq ?_
      refine n_at h (fun v2 _ h => ?_)
      refine gq ?_
      refine n_load_agg ?_
      refine gq ?_
      refine n_load_agg ?_
      refine ge ?_
      refine n_callF hc_cmp h (fun _ => hf_cmp) (fun v3 _ h => ?_)
      refine gq ?_
      refine n_cmp ?_
      refine m_nil ?_
      refine f_t ?_
      refine k_if h (fun _ h => ?_) (fun _ h => ?_)
      · refine k_reg ?_
        refine l_move ?_
        refine l_addw ?_
        refine l_assign ?_
        refine k_nil ?_
        refine f_b ?_
        exact k_next [(1004, 1004)] hB h
      refine k_reg ?_
      refine l_move ?_
      refine l_assign ?_
      refine k_nil ?_
      refine f_b ?_
      exact k_next [(1004, 1004)] hB h
    refine k_exit ?_
    refine f_te ?_
    exact k_brk [(1004, 1004)] hB h
  refine f_be ?_
  refine f_t ?_
  refine k_seq ?_
  refine k_mix [] (.q 0 (.q 1 (.q 2 (.q 3 (.q 4 (.q 5 (.q 6 (.q 7 (.q 8 (.q 9 (.q 10 (.e 11 (.q 12 (.q 13 (.q 14 (.q 15 (.done))))))))))))))))) hm ?_
  refine gq ?_
  refine n_move ?_
  refine gq ?_
  refine n_move ?_
  refine gq ?_
  refine n_move ?_
  refine gq ?_
  refine n_cmp ?_
  refine gq ?_
  refine n_move ?_
  refine gq ?_
  refine n_split h (fun _ h => ?_) (fun _ h => ?_)
  · refine n_on ?_
    refine n_move ?_
    refine gq ?_
    refine n_on ?_
    refine n_move ?_
    refine gq ?_
    refine n_on ?_
    refine n_move ?_
    refine gq ?_
    refine n_on ?_
    refine n_at h (fun v5 _ h => ?_)
    refine gq ?_
    refine n_on ?_
    refine n_load_agg ?_
    refine gq ?_
    refine n_on ?_
    refine n_load_agg ?_
    refine ge ?_
    refine n_on ?_
    refine n_callF hc_cmp h (fun _ => hf_cmp) (fun v6 _ h => ?_)
    refine gq ?_
    refine n_on ?_
    refine n_cmp ?_
    refine gq ?_
    refine n_pick_true ?_
    refine gq ?_
    refine n_assign ?_
    refine gq ?_
    refine n_assign ?_
    refine m_nil ?_
    refine f_t ?_
    refine k_retc ?_
    apply k_ret [] hB h
  refine n_off ?_
  refine gq ?_
  refine n_off ?_
  refine gq ?_
  refine n_off ?_
  refine gq ?_
  refine n_off ?_
  refine gq ?_
  refine n_off ?_
  refine gq ?_
  refine n_off ?_
  refine ge ?_
  refine n_off ?_
  refine gq ?_
  refine n_off ?_
  refine gq ?_
  refine n_pick_false ?_
  refine gq ?_
  refine n_assign ?_
  refine gq ?_
  refine n_assign ?_
  refine m_nil ?_
  refine f_t ?_
  refine k_retc ?_
  apply k_ret [] hB h
theorem nodes_kept_c1_ok {p : TPoint} {p1 : (List TPoint)} {p2 : Bool} {r : Bool} (h : nodes_kept_c1 p p1 p2 = some r) : XSpec Try.prog 51 [.agg (c_TPoint p), .vptr [.vs p1.length (F c_TPoint p1)], .vptr [B p2]] [] (B r) [] [] := by
  unfold nodes_kept_c1 at h
  refine X_of_run Try.hU Try.func51 (fun _ _ _ hB => ?_)
  refine k_seq ?_
  refine k_reg ?_
  refine l_box ?_
  refine l_assign ?_
  refine k_nil ?_
  refine f_t ?_
  refine k_seq ?_
  refine k_reg ?_
  refine l_load ?_
  refine l_load_agg ?_
  refine l_call h (fun _ => slices_BinarySearchFunc_Point_ok (fun h => point_Compare_ok h) ⟨rfl, rfl⟩) (fun v1 _ h => ?_)
  refine l_move ?_
  refine l_extract ?_
  refine l_extract ?_
  refine l_assign ?_
  refine l_assign ?_
  refine k_nil ?_
  refine f_t ?_
  refine k_seq ?_
  refine k_reg ?_
  refine l_move ?_
  refine l_load ?_
  refine l_bool ?_
  refine l_assign ?_
  refine k_nil ?_
  refine f_t ?_
  refine k_retc ?_
  apply k_ret [] hB h
theorem slices_IndexFunc_Point_ok {s : (List TPoint)} {f : (TPoint → Option Bool)} {fk_f : Nat} {fc_f : List AV} (hf_f : ∀ {x0 : TPoint} {r : Bool}, f x0 = some r → XSpec Try.prog fk_f ((.agg (c_TPoint x0)) :: fc_f) [] (B r) [] []) (hc_f : AV.closedL fc_f = true ∧ AV.onlyL [] fc_f = true) {r : Int} (h : slices_IndexFunc_Point s f = some r) : XSpec Try.prog 66 [.vs s.length (F c_TPoint s), .fn (.func fk_f) [] fc_f] [] (I r) [] [] := by
  unfold slices_IndexFunc_Point at h
  refine X_of_run Try.hU Try.func66 (fun _ _ _ hB => ?_)
  refine k_seq ?_
  refine k_reg ?_
  refine l_assign ?_
  refine k_nil ?_
  refine f_t ?_
  refine k_seq ?_
  refine k_seq ?_
  refine k_reg ?_
  refine l_move ?_
  refine l_len ?_
  refine l_move ?_
  refine k_nil ?_
  refine f_t ?_
  refine k_block ?_
  refine k_loop (fun y1 => ⟨[(0, .vs s.length (F c_TPoint s)), (1, .fn (.func fk_f) [] fc_f), (7, I (s.length : Int)), (8, I y1)], [], []⟩) (Sum.elim (fun q4 => (.ret, ⟨[(4, I q4)], [], []⟩)) (fun q5 => (.exit 0, ⟨[], [], []⟩))) [] hB h (fun y1 t h => ?_) (fun q h => ?_)
  · unfold slices_IndexFunc_Point_b1 at h
    refine k_seq ?_
    refine k_reg ?_
    refine l_cmp ?_
    refine k_nil ?_
    refine f_t ?_
    refine k_seq ?_
    refine k_if h (fun _ h => ?_) (fun _ h => ?_)
    · refine k_skip ?_
      refine f_t ?_
      refine k_seq ?_
      refine k_block ?_
      refine k_seq ?_
      refine k_reg ?_
      refine l_move ?_
      refine l_assign ?_
      refine k_nil ?_
      refine f_t ?_
      refine k_seq ?_
      refine k_reg ?_
      refine l_move ?_
      refine l_move ?_
      refine l_move ?_
      refine l_at h (fun v2 _ h => ?_)
      refine l_load_agg ?_
      refine l_callF hc_f h (fun _ => hf_f) (fun v3 _ h => ?_)
      refine k_nil ?_
      refine f_t ?_
      refine k_if h (fun _ h => ?_) (fun _ h => ?_)
      · refine k_seq ?_
        refine k_reg ?_
        refine l_move ?_
        refine l_assign ?_
        refine k_nil ?_
        refine f_t ?_
        refine k_retc ?_
        refine f_br ?_
        refine f_tr ?_
        exact k_brk [] hB h
      refine k_skip ?_
      refine f_b ?_
      refine f_t ?_
      refine k_reg ?_
      refine l_addw ?_
      refine l_move ?_
      refine k_nil ?_
      exact k_next [] hB h
    refine k_exit ?_
    refine f_te ?_
    exact k_brk [] hB h
  rcases q with q4 | q5
  · dsimp only [Sum.elim] at h ⊢
    refine f_br ?_
    refine f_tr ?_
    apply k_ret [] hB h
  dsimp only [Sum.elim] at h ⊢
  refine f_be ?_
  refine f_t ?_
  refine k_seq ?_
  refine k_reg ?_
  refine l_assign ?_
  refine k_nil ?_
  refine f_t ?_
  refine k_retc ?_
  apply k_ret [] hB h
theorem slices_DeleteFunc_Point_ok {s : (List TPoint)} {del : (TPoint → Option Bool)} {fk_del : Nat} {fc_del : List AV} (hf_del : ∀ {x0 : TPoint} {r : Bool}, del x0 = some r → XSpec Try.prog fk_del ((.agg (c_TPoint x0)) :: fc_del) [] (B r) [] []) (hc_del : AV.closedL fc_del = true ∧ AV.onlyL [] fc_del = true) {r : (List TPoint)} (h : slices_DeleteFunc_Point s del = some r) : XSpec Try.prog 50 [.sl 101 0 s.length, .fn (.func fk_del) [] fc_del] [(101, .row 3 0 (F c_TPoint s))] (.sl 101 0 r.length) [(101, .row 3 0 (F c_TPoint r))] [] := by
  unfold slices_DeleteFunc_Point at h
  refine X_of_run Try.hU Try.func50 (fun _ _ _ hB => ?_)
  refine k_seq ?_
  refine k_reg ?_
  refine l_assign ?_
  refine k_nil ?_
  refine f_t ?_
  refine k_seq ?_
  refine k_reg ?_
  refine l_move ?_
  refine l_move ?_
  refine l_callB (hargs := by (simp only [List.nil_append, List.append_nil, List.cons_append, AV.mapNL, AV.mapN, mapNL_closed hc_del.1]; rfl)) h (fun _ => slices_IndexFunc_Point_ok (fun h => hf_del h) hc_del) (fun v1 _ h => ?_)
  refine l_assign ?_
  refine k_nil ?_
  refine f_t ?_
  refine k_seq ?_
  refine k_seq ?_
  refine k_reg ?_
  refine l_move ?_
  refine l_cmp ?_
  refine k_nil ?_
  refine f_t ?_
  refine k_if h (fun _ h => ?_) (fun _ h => ?_)
  · refine k_seq ?_
    refine k_reg ?_
    refine l_move ?_
    refine l_assign ?_
    refine k_nil ?_
    refine f_t ?_
    refine k_retc ?_
    refine f_tr ?_
    apply k_ret [(101, 101)] hB h
  refine k_skip ?_
  refine f_t ?_
  refine k_seq ?_
  refine k_seq ?_
  refine k_reg ?_
  refine l_move ?_
  refine l_addw ?_
  refine l_assign ?_
  refine k_nil ?_
  refine f_t ?_
  refine k_block ?_
  refine k_loop (fun y2 => ⟨[(0, .sl 101 0 y2.2.2.length), (1, .fn (.func fk_del) [] fc_del), (5, I y2.1), (6, I y2.2.1)], [(101, .row 3 0 (F c_TPoint y2.2.2))], []⟩) (fun q7 => (.exit 0, ⟨[(0, .sl 101 0 q7.2.length), (5, I q7.1)], [(101, .row 3 0 (F c_TPoint q7.2))], []⟩)) [(101, 101)] hB h (fun y2 t h => ?_) (fun q7 h => ?_)
  · unfold slices_DeleteFunc_Point_b1 at h
    refine k_seq ?_
    refine k_seq ?_
    refine k_reg ?_
    refine l_move ?_
    refine l_move ?_
    refine l_len ?_
    refine l_cmp ?_
    refine k_nil ?_
    refine f_t ?_
    refine k_if h (fun _ h => ?_) (fun _ h => ?_)
    · refine k_skip ?_
      refine f_t ?_
      refine k_seq ?_
      refine k_block ?_
      refine k_seq ?_
      refine k_reg ?_
      refine l_move ?_
      refine l_move ?_
      refine l_ato h (fun v3 ev3 h => ?_)
      refine l_ldra ev3 ?_
      refine l_alloc ?_
      refine l_store_box ?_
      refine k_nil ?_
      refine f_t ?_
      refine k_seq ?_
      refine k_reg ?_
      refine l_move ?_
      refine l_load_agg ?_
      refine l_callF hc_del h (fun _ => hf_del) (fun v4 _ h => ?_)
      refine l_un ?_
      refine k_nil ?_
      refine f_t ?_
      refine k_if h (fun _ h => ?_) (fun _ h => ?_)
      · refine k_seq ?_
        refine k_reg ?_
        refine l_move ?_
        refine l_move ?_
        refine l_load_agg ?_
        refine l_ato h (fun v5 ev5 h => ?_)
        refine l_put0 ev5 h (fun v6 ev6 h => ?_)
        refine k_nil ?_
        refine f_t ?_
        refine k_reg ?_
        refine l_move ?_
        refine l_addw ?_
        refine l_assign ?_
        refine k_nil ?_
        refine f_b ?_
        refine f_t ?_
        refine k_reg ?_
        refine l_move ?_
        refine l_addw ?_
        refine l_assign ?_
        refine k_nil ?_
        refine f_relen 0 v6.length ?_
        exact k_next [(101, 101)] hB h
      refine k_skip ?_
      refine f_b ?_
      refine f_t ?_
      refine k_reg ?_
      refine l_move ?_
      refine l_addw ?_
      refine l_assign ?_
      refine k_nil ?_
      exact k_next [(101, 101)] hB h
    refine k_exit ?_
    refine f_te ?_
    exact k_brk [(101, 101)] hB h
  refine f_be ?_
  refine f_t ?_
  refine k_seq ?_
  refine k_reg ?_
  refine l_move ?_
  refine l_move ?_
  refine l_sub0 h (fun h => ?_)
  refine l_clr (q := q7.1.toNat) (e := c_TPoint) h (fun v8 ev8 h => ?_)
  refine k_nil ?_
  refine f_t ?_
  refine k_seq ?_
  refine k_reg ?_
  refine l_move ?_
  refine l_move ?_
  refine l_subp h (fun h => ?_)
  refine l_assign ?_
  refine k_nil ?_
  refine f_t ?_
  refine k_retc ?_
  refine f_shrink 101 h (fun v9 ev9 h => ?_)
  refine f_relen 4 v9.length ?_
  apply k_ret [(101, 101)] hB h
theorem nodes_kept_ok {a : (List TPoint)} {b : (List TPoint)} {in_ : Bool} {r : (List TPoint)} (h : nodes_kept a b in_ = some r) : XSpec Try.prog 41 [.vs a.length (F c_TPoint a), .vs b.length (F c_TPoint b), B in_] [] (.sl 1 0 r.length) [(1, .row 3 0 (F c_TPoint r))] [] := by
  unfold nodes_kept at h
  refine X_of_run Try.hU Try.func41 (fun _ _ _ hB => ?_)
  refine k_seq ?_
  refine k_reg ?_
  refine l_box ?_
  refine l_assign ?_
  refine k_nil ?_
  refine f_t ?_
  refine k_seq ?_
  refine k_reg ?_
  refine l_move ?_
  refine l_callX [(1, 100901)] [] h (fun _ => nodes_Of_ok) (fun v1 _ h => ?_)
  refine l_alloc ?_
  refine l_store_box ?_
  refine k_nil ?_
  refine f_t ?_
  refine k_seq ?_
  refine k_reg ?_
  refine l_move ?_
  refine l_callX [(1, 101101)] [] h (fun _ => nodes_Of_ok) (fun v2 _ h => ?_)
  refine l_makeFunc ?_
  refine l_frz 100901 ?_
  refine l_frz 1007 ?_
  refine l_frz 1005 ?_
  refine l_callX [(101, 101101)] [101101] h (fun _ => slices_DeleteFunc_Point_ok (fun h => nodes_kept_c1_ok h) ⟨rfl, rfl⟩) (fun v3 _ h => ?_)
  refine l_assign ?_
  refine k_nil ?_
  refine f_t ?_
  refine k_retc ?_
  apply k_ret [(101101, 1)] hB h
theorem nodes_Meet_ok {a : (List TPoint)} {b : (List TPoint)} {r : (List TPoint)} (h : nodes_Meet a b = some r) : XSpec Try.prog 25 [.vs a.length (F c_TPoint a), .vs b.length (F c_TPoint b)] [] (.sl 1 0 r.length) [(1, .row 3 0 (F c_TPoint r))] [] := by
  unfold nodes_Meet at h
  refine X_of_run Try.hU Try.func25 (fun _ _ _ hB => ?_)
  refine k_seq ?_
  refine k_reg ?_
  refine l_assign ?_
  refine k_nil ?_
  refine f_t ?_
  refine k_seq ?_
  refine k_reg ?_
  refine l_move ?_
  refine l_move ?_
  refine l_callX [(1, 100701)] [] h (fun _ => nodes_kept_ok) (fun v1 _ h => ?_)
  refine l_assign ?_
  refine k_nil ?_
  refine f_t ?_
  refine k_retc ?_
  apply k_ret [(100701, 1)] hB h
theorem nodes_Without_ok {a : (List TPoint)} {b : (List TPoint)} {r : (List TPoint)} (h : nodes_Without a b = some r) : XSpec Try.prog 26 [.vs a.length (F c_TPoint a), .vs b.length (F c_TPoint b)] [] (.sl 1 0 r.length) [(1, .row 3 0 (F c_TPoint r))] [] := by
  unfold nodes_Without at h
  refine X_of_run Try.hU Try.func26 (fun _ _ _ hB => ?_)
  refine k_seq ?_
  refine k_reg ?_
  refine l_assign ?_
  refine k_nil ?_
  refine f_t ?_
  refine k_seq ?_
  refine k_reg ?_
  refine l_move ?_
  refine l_move ?_
  refine l_callX [(1, 100701)] [] h (fun _ => nodes_kept_ok) (fun v1 _ h => ?_)
  refine l_assign ?_
  refine k_nil ?_
  refine f_t ?_
  refine k_retc ?_
  apply k_ret [(100701, 1)] hB h
theorem apostilleref11_Kept_ok {a : (List TPoint)} {b : (List TPoint)} {in_ : Bool} {r : (List TPoint)} (h : apostilleref11_Kept a b in_ = some r) : XSpec Try.prog 27 [.vs a.length (F c_TPoint a), .vs b.length (F c_TPoint b), B in_] [] (.sl 1 0 r.length) [(1, .row 3 0 (F c_TPoint r))] [] := by
  unfold apostilleref11_Kept at h
  refine X_of_run Try.hU Try.func27 (fun _ _ _ hB => ?_)
  refine k_seq ?_
  refine k_reg ?_
  refine l_assign ?_
  refine k_nil ?_
  refine f_t ?_
  refine k_seq ?_
  refine k_reg ?_
  refine l_assign ?_
  refine k_nil ?_
  refine f_t ?_
  refine k_seq ?_
  refine k_seq ?_
  refine k_reg ?_
  refine l_move ?_
  refine l_len ?_
  refine l_move ?_
  refine k_nil ?_
  refine f_t ?_
  refine k_block ?_
  refine k_nilrow (t := 7) 3007 3 ?_
  refine k_loop (fun y1 => ⟨[(0, .vs a.length (F c_TPoint a)), (1, .vs b.length (F c_TPoint b)), (2, B in_), (7, .sl 3007 0 y1.2.length), (10, I (a.length : Int)), (11, I y1.1)], [(3007, .row 3 0 (F c_TPoint y1.2))], []⟩) (fun q6 => (.exit 0, ⟨[(7, .sl 3007 0 q6.length)], [(3007, .row 3 0 (F c_TPoint q6))], []⟩)) [(3007, 3007)] hB h (fun y1 t h => ?_) (fun q6 h => ?_)
  · unfold apostilleref11_Kept_b1 at h
    refine k_seq ?_
    refine k_reg ?_
    refine l_cmp ?_
    refine k_nil ?_
    refine f_t ?_
    refine k_seq ?_
    refine k_if h (fun _ h => ?_) (fun _ h => ?_)
    · refine k_skip ?_
      refine f_t ?_
      refine k_seq ?_
      refine k_block ?_
      refine k_seq ?_
      refine k_reg ?_
      refine l_move ?_
      refine l_assign ?_
      refine k_nil ?_
      refine f_t ?_
      refine k_seq ?_
      refine k_reg ?_
      refine l_move ?_
      refine l_move ?_
      refine l_move ?_
      refine l_at h (fun v2 _ h => ?_)
      refine l_load_agg ?_
      refine l_call h (fun _ => apostilleref10_In_ok) (fun v3 _ h => ?_)
      refine l_move ?_
      refine l_bool ?_
      refine k_nil ?_
      refine f_t ?_
      refine k_if h (fun _ h => ?_) (fun _ h => ?_)
      · refine k_reg ?_
        refine l_move ?_
        refine l_move ?_
        refine l_move ?_
        refine l_at h (fun v4 _ h => ?_)
        refine l_load_agg ?_
        refine l_lit (e := c_TPoint) [v4] ?_
        refine l_appo h (fun v5 _ h => ?_)
        refine l_assign ?_
        refine k_nil ?_
        refine f_b ?_
        refine f_t ?_
        refine k_reg ?_
        refine l_addw ?_
        refine l_move ?_
        refine k_nil ?_
        exact k_next [(3007, 3007)] hB h
      refine k_skip ?_
      refine f_b ?_
      refine f_t ?_
      refine k_reg ?_
      refine l_addw ?_
      refine l_move ?_
      refine k_nil ?_
      exact k_next [(3007, 3007)] hB h
    refine k_exit ?_
    refine f_te ?_
    exact k_brk [(3007, 3007)] hB h
  refine f_be ?_
  refine f_t ?_
  refine k_seq ?_
  refine k_reg ?_
  refine l_move ?_
  refine l_frz 3007 ?_
  refine l_callX [(1, 103101)] [] h (fun _ => apostilleref11_Of_ok) (fun v7 _ h => ?_)
  refine l_assign ?_
  refine k_nil ?_
  refine f_t ?_
  refine k_retc ?_
  apply k_ret [(103101, 1)] hB h
theorem apostillelaw11_NodesMeets_ok {a : (List TPoint)} {b : (List TPoint)} {r : Bool} (h : apostillelaw11_NodesMeets a b = some r) : XSpec Try.prog 7 [.vs a.length (F c_TPoint a), .vs b.length (F c_TPoint b)] [] (B r) [] [] := by
  unfold apostillelaw11_NodesMeets at h
  refine X_of_run Try.hU Try.func7 (fun _ _ _ hB => ?_)
  refine k_seq ?_
  refine k_reg ?_
  refine l_assign ?_
  refine k_nil ?_
  refine f_t ?_
  refine k_seq ?_
  refine k_seq ?_
  refine k_cut (fun q2 => (.normal, ⟨[(0, .vs a.length (F c_TPoint a)), (1, .vs b.length (F c_TPoint b)), (20, B q2)], [], []⟩)) h (fun t h => ?_) (fun q2 h => ?_)
  · refine k_reg ?_
    refine l_call h (fun _ => apostillelaw11_awake_ok) (fun v1 _ h => ?_)
    refine l_un ?_
    refine l_move ?_
    refine l_split h (fun _ h => ?_) (fun _ h => ?_)
    · refine l_off ?_
      refine l_off ?_
      refine l_off ?_
      refine l_pick_true ?_
      refine l_move ?_
      refine l_off ?_
      refine l_off ?_
      refine l_off ?_
      refine l_pick_true ?_
      refine k_nil ?_
      exact k_out [] hB h
    refine l_on ?_
    refine l_move ?_
    refine l_on ?_
    refine l_len ?_
    refine l_on ?_
    refine l_cmp ?_
    refine l_pick_false ?_
    refine l_move ?_
    refine l_split h (fun _ h => ?_) (fun _ h => ?_)
    · refine l_off ?_
      refine l_off ?_
      refine l_off ?_
      refine l_pick_true ?_
      refine k_nil ?_
      exact k_out [] hB h
    refine l_on ?_
    refine l_move ?_
    refine l_on ?_
    refine l_len ?_
    refine l_on ?_
    refine l_cmp ?_
    refine l_pick_false ?_
    refine k_nil ?_
    exact k_out [] hB h
  refine f_t ?_
  refine k_if h (fun _ h => ?_) (fun _ h => ?_)
  · refine k_seq ?_
    refine k_reg ?_
    refine l_call h (fun _ => apostillelaw11_awake_ok) (fun v3 _ h => ?_)
    refine l_assign ?_
    refine k_nil ?_
    refine f_t ?_
    refine k_retc ?_
    refine f_tr ?_
    apply k_ret [] hB h
  refine k_skip ?_
  refine f_t ?_
  refine k_seq ?_
  refine k_reg ?_
  refine l_move ?_
  refine l_move ?_
  refine l_callX [(1, 102401)] [] h (fun _ => nodes_Union_ok) (fun v4 _ h => ?_)
  refine l_move ?_
  refine l_move ?_
  refine l_callX [(1, 102701)] [] h (fun _ => nodes_Meet_ok) (fun v5 _ h => ?_)
  refine l_to [(102401, 102401), (102701, 102701)] ⟨[(0, .vs a.length (F c_TPoint a)), (1, .vs b.length (F c_TPoint b)), (24, .sl 102401 0 v4.length), (27, .sl 102701 0 v5.length)], [(102401, .row 3 0 (F c_TPoint v4)), (102701, .row 3 0 (F c_TPoint v5))], []⟩ hB ?_
  refine l_move ?_
  refine l_move ?_
  refine l_callX [(1, 103001)] [] h (fun _ => nodes_Without_ok) (fun v6 _ h => ?_)
  refine l_move ?_
  refine l_move ?_
  refine l_callX [(1, 103301)] [] h (fun _ => nodes_Without_ok) (fun v7 _ h => ?_)
  refine l_to [(102401, 102401), (102701, 102701), (103001, 103001), (103301, 103301)] ⟨[(0, .vs a.length (F c_TPoint a)), (1, .vs b.length (F c_TPoint b)), (24, .sl 102401 0 v4.length), (27, .sl 102701 0 v5.length), (30, .sl 103001 0 v6.length), (33, .sl 103301 0 v7.length)], [(102401, .row 3 0 (F c_TPoint v4)), (102701, .row 3 0 (F c_TPoint v5)), (103001, .row 3 0 (F c_TPoint v6)), (103301, .row 3 0 (F c_TPoint v7))], []⟩ hB ?_
  refine l_assign ?_
  refine l_assign ?_
  refine l_assign ?_
  refine l_assign ?_
  refine k_nil ?_
  refine f_t ?_
  refine k_seq ?_
  refine k_seq ?_
  refine k_cut (fun q16 => (.normal, ⟨[(0, .vs a.length (F c_TPoint a)), (1, .vs b.length (F c_TPoint b)), (5, .sl 102401 0 v4.length), (6, .sl 102701 0 v5.length), (7, .sl 103001 0 v6.length), (8, .sl 103301 0 v7.length), (58, B q16)], [(102401, .row 3 0 (F c_TPoint v4)), (102701, .row 3 0 (F c_TPoint v5)), (103001, .row 3 0 (F c_TPoint v6)), (103301, .row 3 0 (F c_TPoint v7))], [1035, 1035]⟩)) h (fun t h => ?_) (fun q16 h => ?_)
  · refine k_reg ?_
    refine l_move ?_
    refine l_buildSlice0 ?_
    refine l_move ?_
    refine l_appf h (fun v8 _ h => ?_)
    refine l_move ?_
    refine l_appf h (fun v9 _ h => ?_)
    refine l_frz 1035 ?_
    refine l_callX [(1, 104001)] [] h (fun _ => apostilleref11_Of_ok) (fun v10 _ h => ?_)
    refine l_callB h (fun _ => apostilleref10_Same_ok) (fun v11 _ h => ?_)
    refine l_to [(102401, 102401), (102701, 102701), (103001, 103001), (103301, 103301)] ⟨[(0, .vs a.length (F c_TPoint a)), (1, .vs b.length (F c_TPoint b)), (5, .sl 102401 0 v4.length), (6, .sl 102701 0 v5.length), (7, .sl 103001 0 v6.length), (8, .sl 103301 0 v7.length), (41, B v11)], [(102401, .row 3 0 (F c_TPoint v4)), (102701, .row 3 0 (F c_TPoint v5)), (103001, .row 3 0 (F c_TPoint v6)), (103301, .row 3 0 (F c_TPoint v7))], [1035, 1035]⟩ hB ?_
    refine l_un ?_
    refine l_move ?_
    refine l_split h (fun _ h => ?_) (fun _ h => ?_)
    · refine l_off ?_
      refine l_off ?_
      refine l_off ?_
      refine l_off ?_
      refine l_off ?_
      refine l_off ?_
      refine l_pick_true ?_
      refine l_move ?_
      refine l_off ?_
      refine l_off ?_
      refine l_off ?_
      refine l_off ?_
      refine l_off ?_
      refine l_off ?_
      refine l_pick_true ?_
      refine k_nil ?_
      exact k_out [(102401, 102401), (102701, 102701), (103001, 103001), (103301, 103301)] hB h
    refine l_on ?_
    refine l_move ?_
    refine l_on ?_
    refine l_move ?_
    refine l_on ?_
    refine l_move ?_
    refine l_on ?_
    refine l_callX [(1, 104701)] [] h (fun _ => apostilleref11_Kept_ok) (fun v12 _ h => ?_)
    refine l_on ?_
    refine l_callB h (fun _ => apostilleref10_Same_ok) (fun v13 _ h => ?_)
    refine l_to [(102401, 102401), (102701, 102701), (103001, 103001), (103301, 103301)] ⟨[(0, .vs a.length (F c_TPoint a)), (1, .vs b.length (F c_TPoint b)), (5, .sl 102401 0 v4.length), (6, .sl 102701 0 v5.length), (7, .sl 103001 0 v6.length), (8, .sl 103301 0 v7.length), (43, B false), (48, B v13)], [(102401, .row 3 0 (F c_TPoint v4)), (102701, .row 3 0 (F c_TPoint v5)), (103001, .row 3 0 (F c_TPoint v6)), (103301, .row 3 0 (F c_TPoint v7))], [1035, 1035]⟩ hB ?_
    refine l_on ?_
    refine l_un ?_
    refine l_pick_false ?_
    refine l_move ?_
    refine l_split h (fun _ h => ?_) (fun _ h => ?_)
    · refine l_off ?_
      refine l_off ?_
      refine l_off ?_
      refine l_off ?_
      refine l_off ?_
      refine l_off ?_
      refine l_pick_true ?_
      refine k_nil ?_
      exact k_out [(102401, 102401), (102701, 102701), (103001, 103001), (103301, 103301)] hB h
    refine l_on ?_
    refine l_move ?_
    refine l_on ?_
    refine l_move ?_
    refine l_on ?_
    refine l_move ?_
    refine l_on ?_
    refine l_callX [(1, 105501)] [] h (fun _ => apostilleref11_Kept_ok) (fun v14 _ h => ?_)
    refine l_on ?_
    refine l_callB h (fun _ => apostilleref10_Same_ok) (fun v15 _ h => ?_)
    refine l_to [(102401, 102401), (102701, 102701), (103001, 103001), (103301, 103301)] ⟨[(0, .vs a.length (F c_TPoint a)), (1, .vs b.length (F c_TPoint b)), (5, .sl 102401 0 v4.length), (6, .sl 102701 0 v5.length), (7, .sl 103001 0 v6.length), (8, .sl 103301 0 v7.length), (51, B false), (56, B v15)], [(102401, .row 3 0 (F c_TPoint v4)), (102701, .row 3 0 (F c_TPoint v5)), (103001, .row 3 0 (F c_TPoint v6)), (103301, .row 3 0 (F c_TPoint v7))], [1035, 1035]⟩ hB ?_
    refine l_on ?_
    refine l_un ?_
    refine l_pick_false ?_
    refine k_nil ?_
    exact k_out [(102401, 102401), (102701, 102701), (103001, 103001), (103301, 103301)] hB h
  refine f_t ?_
  refine k_if h (fun _ h => ?_) (fun _ h => ?_)
  · refine k_seq ?_
    refine k_reg ?_
    refine l_assign ?_
    refine k_nil ?_
    refine f_t ?_
    refine k_retc ?_
    refine f_tr ?_
    apply k_ret [] hB h
  refine k_skip ?_
  refine f_t ?_
  refine k_seq ?_
  refine k_reg ?_
  refine l_move ?_
  refine l_move ?_
  refine l_frz 103001 ?_
  refine l_frz 102701 ?_
  refine l_callX [(1, 106101)] [] h (fun _ => nodes_Union_ok) (fun v17 _ h => ?_)
  refine l_move ?_
  refine l_frz 106101 ?_
  refine l_frz 103301 ?_
  refine l_callX [(1, 106301)] [] h (fun _ => nodes_Union_ok) (fun v18 _ h => ?_)
  refine l_to [(102401, 102401), (106301, 106301)] ⟨[(0, .vs a.length (F c_TPoint a)), (1, .vs b.length (F c_TPoint b)), (5, .sl 102401 0 v4.length), (6, .vs v5.length (F c_TPoint v5)), (7, .vs v6.length (F c_TPoint v6)), (8, .vs v7.length (F c_TPoint v7)), (63, .sl 106301 0 v18.length)], [(102401, .row 3 0 (F c_TPoint v4)), (106301, .row 3 0 (F c_TPoint v18))], [1035, 1035]⟩ hB ?_
  refine l_move ?_
  refine l_callB h (fun _ => apostilleref10_Same_ok) (fun v19 _ h => ?_)
  refine l_move ?_
  refine l_split h (fun _ h => ?_) (fun _ h => ?_)
  · refine l_on ?_
    refine l_move ?_
    refine l_on ?_
    refine l_len ?_
    refine l_on ?_
    refine l_move ?_
    refine l_on ?_
    refine l_len ?_
    refine l_on ?_
    refine l_addw ?_
    refine l_on ?_
    refine l_move ?_
    refine l_on ?_
    refine l_len ?_
    refine l_on ?_
    refine l_addw ?_
    refine l_on ?_
    refine l_move ?_
    refine l_on ?_
    refine l_len ?_
    refine l_on ?_
    refine l_cmp ?_
    refine l_pick_true ?_
    refine l_move ?_
    refine l_split h (fun _ h => ?_) (fun _ h => ?_)
    · refine l_on ?_
      refine l_move ?_
      refine l_on ?_
      refine l_move ?_
      refine l_on ?_
      refine l_move ?_
      refine l_on ?_
      refine l_callX [(1, 108301)] [] h (fun _ => nodes_Meet_ok) (fun v20 _ h => ?_)
      refine l_to [(108301, 108301)] ⟨[(79, B true), (80, .vs v5.length (F c_TPoint v5)), (83, .sl 108301 0 v20.length)], [(108301, .row 3 0 (F c_TPoint v20))], [1035, 1035]⟩ hB ?_
      refine l_on ?_
      refine l_callB h (fun _ => apostilleref10_Same_ok) (fun v21 _ h => ?_)
      refine l_pick_true ?_
      refine l_assign ?_
      refine k_nil ?_
      refine f_t ?_
      refine k_retc ?_
      apply k_ret [] hB h
    refine l_off ?_
    refine l_off ?_
    refine l_off ?_
    refine l_off ?_
    refine l_off ?_
    refine l_pick_false ?_
    refine l_assign ?_
    refine k_nil ?_
    refine f_t ?_
    refine k_retc ?_
    apply k_ret [] hB h
  refine l_off ?_
  refine l_off ?_
  refine l_off ?_
  refine l_off ?_
  refine l_off ?_
  refine l_off ?_
  refine l_off ?_
  refine l_off ?_
  refine l_off ?_
  refine l_off ?_
  refine l_off ?_
  refine l_pick_false ?_
  refine l_move ?_
  refine l_off ?_
  refine l_off ?_
  refine l_off ?_
  refine l_off ?_
  refine l_off ?_
  refine l_pick_false ?_
  refine l_assign ?_
  refine k_nil ?_
  refine f_t ?_
  refine k_retc ?_
  apply k_ret [] hB h
theorem apostillelaw11_NodesLaws_ok {a : (List TPoint)} {b : (List TPoint)} {c : (List TPoint)} {r : Bool} (h : apostillelaw11_NodesLaws a b c = some r) : XSpec Try.prog 8 [.vs a.length (F c_TPoint a), .vs b.length (F c_TPoint b), .vs c.length (F c_TPoint c)] [] (B r) [] [] := by
  unfold apostillelaw11_NodesLaws at h
  refine X_of_run Try.hU Try.func8 (fun _ _ _ hB => ?_)
  refine k_seq ?_
  refine k_reg ?_
  refine l_assign ?_
  refine k_nil ?_
  refine f_t ?_
  refine k_seq ?_
  refine k_seq ?_
  refine k_cut (fun q2 => (.normal, ⟨[(0, .vs a.length (F c_TPoint a)), (1, .vs b.length (F c_TPoint b)), (2, .vs c.length (F c_TPoint c)), (24, B q2)], [], []⟩)) h (fun t h => ?_) (fun q2 h => ?_)
  · refine k_reg ?_
    refine l_call h (fun _ => apostillelaw11_awake_ok) (fun v1 _ h => ?_)
    refine l_un ?_
    refine l_move ?_
    refine l_split h (fun _ h => ?_) (fun _ h => ?_)
    · refine l_off ?_
      refine l_off ?_
      refine l_off ?_
      refine l_pick_true ?_
      refine l_move ?_
      refine l_off ?_
      refine l_off ?_
      refine l_off ?_
      refine l_pick_true ?_
      refine l_move ?_
      refine l_off ?_
      refine l_off ?_
      refine l_off ?_
      refine l_pick_true ?_
      refine k_nil ?_
      exact k_out [] hB h
    refine l_on ?_
    refine l_move ?_
    refine l_on ?_
    refine l_len ?_
    refine l_on ?_
    refine l_cmp ?_
    refine l_pick_false ?_
    refine l_move ?_
    refine l_split h (fun _ h => ?_) (fun _ h => ?_)
    · refine l_off ?_
      refine l_off ?_
      refine l_off ?_
      refine l_pick_true ?_
      refine l_move ?_
      refine l_off ?_
      refine l_off ?_
      refine l_off ?_
      refine l_pick_true ?_
      refine k_nil ?_
      exact k_out [] hB h
    refine l_on ?_
    refine l_move ?_
    refine l_on ?_
    refine l_len ?_
    refine l_on ?_
    refine l_cmp ?_
    refine l_pick_false ?_
    refine l_move ?_
    refine l_split h (fun _ h => ?_) (fun _ h => ?_)
    · refine l_off ?_
      refine l_off ?_
      refine l_off ?_
      refine l_pick_true ?_
      refine k_nil ?_
      exact k_out [] hB h
    refine l_on ?_
    refine l_move ?_
    refine l_on ?_
    refine l_len ?_
    refine l_on ?_
    refine l_cmp ?_
    refine l_pick_false ?_
    refine k_nil ?_
    exact k_out [] hB h
  refine f_t ?_
  refine k_if h (fun _ h => ?_) (fun _ h => ?_)
  · refine k_seq ?_
    refine k_reg ?_
    refine l_call h (fun _ => apostillelaw11_awake_ok) (fun v3 _ h => ?_)
    refine l_assign ?_
    refine k_nil ?_
    refine f_t ?_
    refine k_retc ?_
    refine f_tr ?_
    apply k_ret [] hB h
  refine k_skip ?_
  refine f_t ?_
  refine k_seq ?_
  refine k_cut (fun q14 => (.normal, ⟨[(0, .vs a.length (F c_TPoint a)), (1, .vs b.length (F c_TPoint b)), (2, .vs c.length (F c_TPoint c)), (7, B q14)], [], []⟩)) h (fun t h => ?_) (fun q14 h => ?_)
  · refine k_reg ?_
    refine l_move ?_
    refine l_move ?_
    refine l_callX [(1, 102801)] [] h (fun _ => nodes_Union_ok) (fun v4 _ h => ?_)
    refine l_move ?_
    refine l_frz 102801 ?_
    refine l_callX [(1, 103001)] [] h (fun _ => nodes_Union_ok) (fun v5 _ h => ?_)
    refine l_to [(103001, 103001)] ⟨[(0, .vs a.length (F c_TPoint a)), (1, .vs b.length (F c_TPoint b)), (2, .vs c.length (F c_TPoint c)), (30, .sl 103001 0 v5.length)], [(103001, .row 3 0 (F c_TPoint v5))], []⟩ hB ?_
    refine l_move ?_
    refine l_move ?_
    refine l_move ?_
    refine l_callX [(1, 103401)] [] h (fun _ => nodes_Union_ok) (fun v6 _ h => ?_)
    refine l_frz 103401 ?_
    refine l_callX [(1, 103501)] [] h (fun _ => nodes_Union_ok) (fun v7 _ h => ?_)
    refine l_to [(103001, 103001), (103501, 103501)] ⟨[(0, .vs a.length (F c_TPoint a)), (1, .vs b.length (F c_TPoint b)), (2, .vs c.length (F c_TPoint c)), (30, .sl 103001 0 v5.length), (35, .sl 103501 0 v7.length)], [(103001, .row 3 0 (F c_TPoint v5)), (103501, .row 3 0 (F c_TPoint v7))], []⟩ hB ?_
    refine l_callB h (fun _ => apostilleref10_Same_ok) (fun v8 _ h => ?_)
    refine l_move ?_
    refine l_split h (fun _ h => ?_) (fun _ h => ?_)
    · refine l_on ?_
      refine l_move ?_
      refine l_on ?_
      refine l_move ?_
      refine l_on ?_
      refine l_callX [(1, 104001)] [] h (fun _ => nodes_Meet_ok) (fun v9 _ h => ?_)
      refine l_to [(104001, 104001)] ⟨[(0, .vs a.length (F c_TPoint a)), (1, .vs b.length (F c_TPoint b)), (2, .vs c.length (F c_TPoint c)), (37, B true), (40, .sl 104001 0 v9.length)], [(104001, .row 3 0 (F c_TPoint v9))], []⟩ hB ?_
      refine l_on ?_
      refine l_move ?_
      refine l_on ?_
      refine l_frz 104001 ?_
      refine l_callX [(1, 104201)] [] h (fun _ => nodes_Meet_ok) (fun v10 _ h => ?_)
      refine l_on ?_
      refine l_move ?_
      refine l_on ?_
      refine l_move ?_
      refine l_on ?_
      refine l_move ?_
      refine l_on ?_
      refine l_callX [(1, 104601)] [] h (fun _ => nodes_Meet_ok) (fun v11 _ h => ?_)
      refine l_to [(104201, 104201), (104601, 104601)] ⟨[(0, .vs a.length (F c_TPoint a)), (1, .vs b.length (F c_TPoint b)), (2, .vs c.length (F c_TPoint c)), (37, B true), (42, .sl 104201 0 v10.length), (43, .vs a.length (F c_TPoint a)), (46, .sl 104601 0 v11.length)], [(104201, .row 3 0 (F c_TPoint v10)), (104601, .row 3 0 (F c_TPoint v11))], []⟩ hB ?_
      refine l_on ?_
      refine l_frz 104601 ?_
      refine l_callX [(1, 104701)] [] h (fun _ => nodes_Meet_ok) (fun v12 _ h => ?_)
      refine l_on ?_
      refine l_callB h (fun _ => apostilleref10_Same_ok) (fun v13 _ h => ?_)
      refine l_to [] ⟨[(0, .vs a.length (F c_TPoint a)), (1, .vs b.length (F c_TPoint b)), (2, .vs c.length (F c_TPoint c)), (37, B true), (48, B v13)], [], []⟩ hB ?_
      refine l_pick_true ?_
      refine l_assign ?_
      refine k_nil ?_
      exact k_out [] hB h
    refine l_off ?_
    refine l_off ?_
    refine l_off ?_
    refine l_off ?_
    refine l_off ?_
    refine l_off ?_
    refine l_off ?_
    refine l_off ?_
    refine l_off ?_
    refine l_off ?_
    refine l_off ?_
    refine l_pick_false ?_
    refine l_assign ?_
    refine k_nil ?_
    exact k_out [] hB h
  refine f_t ?_
  refine k_seq ?_
  refine k_reg ?_
  refine l_move ?_
  refine l_move ?_
  refine l_split h (fun _ h => ?_) (fun _ h => ?_)
  · refine l_on ?_
    refine l_move ?_
    refine l_on ?_
    refine l_move ?_
    refine l_on ?_
    refine l_move ?_
    refine l_on ?_
    refine l_callX [(1, 105501)] [] h (fun _ => nodes_Union_ok) (fun v15 _ h => ?_)
    refine l_on ?_
    refine l_frz 105501 ?_
    refine l_callX [(1, 105601)] [] h (fun _ => nodes_Meet_ok) (fun v16 _ h => ?_)
    refine l_to [(105601, 105601)] ⟨[(0, .vs a.length (F c_TPoint a)), (1, .vs b.length (F c_TPoint b)), (2, .vs c.length (F c_TPoint c)), (51, B true), (56, .sl 105601 0 v16.length)], [(105601, .row 3 0 (F c_TPoint v16))], []⟩ hB ?_
    refine l_on ?_
    refine l_move ?_
    refine l_on ?_
    refine l_move ?_
    refine l_on ?_
    refine l_callX [(1, 105901)] [] h (fun _ => nodes_Meet_ok) (fun v17 _ h => ?_)
    refine l_on ?_
    refine l_move ?_
    refine l_on ?_
    refine l_move ?_
    refine l_on ?_
    refine l_callX [(1, 106201)] [] h (fun _ => nodes_Meet_ok) (fun v18 _ h => ?_)
    refine l_to [(105601, 105601), (105901, 105901), (106201, 106201)] ⟨[(0, .vs a.length (F c_TPoint a)), (1, .vs b.length (F c_TPoint b)), (2, .vs c.length (F c_TPoint c)), (51, B true), (56, .sl 105601 0 v16.length), (59, .sl 105901 0 v17.length), (62, .sl 106201 0 v18.length)], [(105601, .row 3 0 (F c_TPoint v16)), (105901, .row 3 0 (F c_TPoint v17)), (106201, .row 3 0 (F c_TPoint v18))], []⟩ hB ?_
    refine l_on ?_
    refine l_frz 105901 ?_
    refine l_frz 106201 ?_
    refine l_callX [(1, 106301)] [] h (fun _ => nodes_Union_ok) (fun v19 _ h => ?_)
    refine l_on ?_
    refine l_callB h (fun _ => apostilleref10_Same_ok) (fun v20 _ h => ?_)
    refine l_to [] ⟨[(0, .vs a.length (F c_TPoint a)), (1, .vs b.length (F c_TPoint b)), (2, .vs c.length (F c_TPoint c)), (51, B true), (64, B v20)], [], []⟩ hB ?_
    refine l_pick_true ?_
    refine l_move ?_
    refine l_split h (fun _ h => ?_) (fun _ h => ?_)
    · refine l_on ?_
      refine l_move ?_
      refine l_on ?_
      refine l_move ?_
      refine l_on ?_
      refine l_move ?_
      refine l_on ?_
      refine l_callX [(1, 107001)] [] h (fun _ => nodes_Union_ok) (fun v21 _ h => ?_)
      refine l_on ?_
      refine l_frz 107001 ?_
      refine l_callX [(1, 107101)] [] h (fun _ => nodes_Without_ok) (fun v22 _ h => ?_)
      refine l_to [(107101, 107101)] ⟨[(0, .vs a.length (F c_TPoint a)), (1, .vs b.length (F c_TPoint b)), (2, .vs c.length (F c_TPoint c)), (66, B true), (71, .sl 107101 0 v22.length)], [(107101, .row 3 0 (F c_TPoint v22))], []⟩ hB ?_
      refine l_on ?_
      refine l_move ?_
      refine l_on ?_
      refine l_move ?_
      refine l_on ?_
      refine l_callX [(1, 107401)] [] h (fun _ => nodes_Without_ok) (fun v23 _ h => ?_)
      refine l_on ?_
      refine l_move ?_
      refine l_on ?_
      refine l_move ?_
      refine l_on ?_
      refine l_callX [(1, 107701)] [] h (fun _ => nodes_Without_ok) (fun v24 _ h => ?_)
      refine l_to [(107101, 107101), (107401, 107401), (107701, 107701)] ⟨[(66, B true), (71, .sl 107101 0 v22.length), (74, .sl 107401 0 v23.length), (77, .sl 107701 0 v24.length)], [(107101, .row 3 0 (F c_TPoint v22)), (107401, .row 3 0 (F c_TPoint v23)), (107701, .row 3 0 (F c_TPoint v24))], []⟩ hB ?_
      refine l_on ?_
      refine l_frz 107401 ?_
      refine l_frz 107701 ?_
      refine l_callX [(1, 107801)] [] h (fun _ => nodes_Meet_ok) (fun v25 _ h => ?_)
      refine l_on ?_
      refine l_callB h (fun _ => apostilleref10_Same_ok) (fun v26 _ h => ?_)
      refine l_to [] ⟨[(66, B true), (79, B v26)], [], []⟩ hB ?_
      refine l_pick_true ?_
      refine l_assign ?_
      refine k_nil ?_
      refine f_t ?_
      refine k_retc ?_
      apply k_ret [] hB h
    refine l_off ?_
    refine l_off ?_
    refine l_off ?_
    refine l_off ?_
    refine l_off ?_
    refine l_off ?_
    refine l_off ?_
    refine l_off ?_
    refine l_off ?_
    refine l_off ?_
    refine l_off ?_
    refine l_off ?_
    refine l_off ?_
    refine l_pick_false ?_
    refine l_assign ?_
    refine k_nil ?_
    refine f_t ?_
    refine k_retc ?_
    apply k_ret [] hB h
  refine l_off ?_
  refine l_off ?_
  refine l_off ?_
  refine l_off ?_
  refine l_off ?_
  refine l_off ?_
  refine l_off ?_
  refine l_off ?_
  refine l_off ?_
  refine l_off ?_
  refine l_off ?_
  refine l_off ?_
  refine l_off ?_
  refine l_pick_false ?_
  refine l_move ?_
  refine l_off ?_
  refine l_off ?_
  refine l_off ?_
  refine l_off ?_
  refine l_off ?_
  refine l_off ?_
  refine l_off ?_
  refine l_off ?_
  refine l_off ?_
  refine l_off ?_
  refine l_off ?_
  refine l_off ?_
  refine l_off ?_
  refine l_pick_false ?_
  refine l_assign ?_
  refine k_nil ?_
  refine f_t ?_
  refine k_retc ?_
  apply k_ret [] hB h
end Go.Proofs.Ytebcdmfekidfoaa
