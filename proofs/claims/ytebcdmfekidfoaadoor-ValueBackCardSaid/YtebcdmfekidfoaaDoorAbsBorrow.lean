/-
  A CALL THAT BORROWS: a pure contract over memory that nobody writes serves a call that is handed owned memory, where its result holds none of it. Generic over the program. Conditions: none.
-/
import Derived.Test.YtebcdmfekidfoaaDoorAbsLoop
set_option linter.unusedVariables false
set_option linter.unusedSectionVars false
namespace Go.Abs
open Go
variable [GTab]
mutual
/-- Plain all through. -/
def AV.flat : AV → Bool
  | .pl _ => true
  | .agg cs => AV.flatL cs
  | .tup cs => AV.flatL cs
  | _ => false
def AV.flatL : List AV → Bool
  | [] => true
  | x :: r => AV.flat x && AV.flatL r
end
theorem AV.flatL_get : ∀ {l : List AV} (h : AV.flatL l = true) {i : Nat} {x : AV}, l[i]? = some x → x.flat = true
  | [], _, i, x, hx => by simp at hx
  | y :: r, h, 0, x, hx => by simp [AV.flatL] at h hx; subst hx; exact h.1
  | y :: r, h, i + 1, x, hx => by simp [AV.flatL] at h hx; exact AV.flatL_get h.2 hx
theorem CRel.flat {O O' : Nat → Prop} {w w' : World} {x : AV} {v : Value} (h : CRel O w x v) (hf : x.flat = true) : CRel O' w' x v := by
  induction h with
  | pl v => exact .pl v
  | agg hl _ ih => exact .agg hl fun i x v hx hv => ih i x v hx hv (AV.flatL_get (by simpa [AV.flat] using hf) hx)
  | tup hl _ ih => exact .tup hl fun i x v hx hv => ih i x v hx hv (AV.flatL_get (by simpa [AV.flat] using hf) hx)
  | _ => simp [AV.flat] at hf
theorem VRel.flat {F F' : Nat → Prop} {β β' : Emb} {w w' : World} {x : AV} {v : Value} (h : VRel F β w x v) (hf : x.flat = true) : VRel F' β' w' x v := by
  induction h with
  | c h => exact .c (h.flat hf)
  | agg hl _ ih => exact .agg hl fun i x v hx hv => ih i x v hx hv (AV.flatL_get (by simpa [AV.flat] using hf) hx)
  | tup hl _ ih => exact .tup hl fun i x v hx hv => ih i x v hx hv (AV.flatL_get (by simpa [AV.flat] using hf) hx)
  | _ => simp [AV.flat] at hf

/-- What a name shows, as memory that nobody writes. -/
def brwL (H : List (Nat × AObj)) : AV → AV
  | .ptr b o => match hget H b with
    | some ob => match cellsOf ob with
      | some cs => .vptr (cs.drop o)
      | none => .gone
    | none => .gone
  | .sl b o n => match hget H b with
    | some (.row k _ cs) => .vs n ((cs.drop o).take (n * k))
    | _ => .gone
  | _ => .gone
theorem SatB.cells_of {c : Ctx} {s : St} {β : Emb} {a : Act} {w : World} (hs : SatB c s β a w) {b : Nat} {p : Place} {ob : AObj} {cs : List AV} (hp : β b = some p) (hb : hget s.H b = some ob) (hcs : cellsOf ob = some cs) (hn : p.nil = false) :
    ∀ (i : Nat) (x : AV), cs[i]? = some x → ∃ u, w.cell? ⟨p.blk, p.st + i, none⟩ = some u ∧ CRel (off c.F β) w x u ∧ u.oneCell' = true := by
  obtain ⟨p', hp', hro⟩ := hs.heap.obj b _ hb
  rw [hp] at hp'; cases hp'
  intro i x hx
  cases ob with
  | row k' fz ds =>
    cases hcs
    obtain ⟨_, _, h3⟩ := hro
    obtain ⟨cv, fr, hcv, _, _, h6, _⟩ := h3 hn
    obtain ⟨u, hu, hc, h1⟩ := h6 i x hx
    exact ⟨u, by rw [cell_of_cells hcv]; exact hu, hc, h1⟩
  | box ds =>
    simp only [cellsOf] at hcs
    split at hcs
    · rename_i hcl
      cases hcs
      obtain ⟨_, cv, fr, hcv, _, h6, _⟩ := hro
      obtain ⟨u, hu, hc, h1⟩ := h6 i x hx
      exact ⟨u, by rw [cell_of_cells hcv]; exact hu, hc.closed (AV.closedL_get hcl hx), h1⟩
    · cases hcs
  | map es => cases hcs
  | siter sx pos => cases hcs
theorem SatB.borrow {c : Ctx} {s : St} {β : Emb} {a : Act} {w : World} (hs : SatB c s β a w) {x : AV} {v : Value} (h : VRel c.F β w x v) : VRel c.F noEmb w (x.mapN (brwL s.H)) v := by
  have hO : ∀ b, off c.F noEmb b → off c.F β b ∨ w.heap.size ≤ b := fun b hb => .inl (hb.elim .inl (fun h => (own_noEmb _ h).elim))
  have hwk : ∀ b, b < w.heap.size → ¬ off c.F β b → w.heap[b]? = w.heap[b]? := fun _ _ _ => rfl
  have hoff : ∀ {b p}, β b = some p → p.nil = false → ¬ off c.F noEmb p.blk := fun hp hn h => h.elim (hs.heap.apart _ _ hp hn) (own_noEmb _)
  refine h.mapN (Nat.le_refl _) hO hwk fun y u hy hu => ?_
  cases hu with
  | @ptr b o p hp hn =>
    simp only [brwL]
    split
    · rename_i ob hb
      split
      · rename_i cs hcs
        refine .c (VRel.vptr_mk (hoff hp hn) (hs.heap.blk_lt hp hn) fun i x hx => ?_)
        rw [List.getElem?_drop] at hx
        obtain ⟨u, hu, hr, h1⟩ := hs.cells_of hp hb hcs hn _ x hx
        exact ⟨u, by rw [Nat.add_assoc]; exact hu, hr.mono (Nat.le_refl _) hO hwk, h1⟩
      · exact .gone
    · exact .gone
  | @pnil b o => exact .gone
  | @sl b o n cap p hp hn hcap hl =>
    simp only [brwL]
    split
    · rename_i k fz cs hb
      refine .c (VRel.vs_mk hcap (hoff hp hn) (hs.heap.blk_lt hp hn) fun i x hx => ?_)
      have hi : i < n * k := by
        have := (List.getElem?_eq_some_iff.1 hx).1
        simp at this; omega
      rw [List.getElem?_take_of_lt hi, List.getElem?_drop] at hx
      obtain ⟨u, hu, hr, h1⟩ := hs.cells_of hp hb rfl hn _ x hx
      exact ⟨u, by rw [Nat.add_assoc]; exact hu, hr.mono (Nat.le_refl _) hO hwk, h1⟩
    · exact .gone
  | @slz b o a p hp =>
    simp only [brwL]
    split
    · rename_i k fz cs hb
      simp
      exact .c .vs0
    · exact .gone
  | @mp b p hp hn => exact .gone
  | @it b p hp hn => exact .gone
  | c h => cases h <;> cases hy
  | agg => cases hy
  | tup => cases hy
  | fn => cases hy
  | ifc => cases hy
  | junk => cases hy
  | gone => cases hy
theorem mapNL_map (f : AV → AV) : ∀ l : List AV, AV.mapNL f l = l.map (AV.mapN f)
  | [] => rfl
  | x :: r => by rw [AV.mapNL, mapNL_map f r]; rfl

section
variable {P : Program} {c : Ctx} {Q : Exit → Act → World → Prop} {T : List (Nat × AV)} {H : List (Nat × AObj)} {M : List Nat} {ops : Array Oper} {rest : List Oper} {hot : List Nat} {l : Plan} {i : Nat} {d : Tmp} {ty : TypeId} {pos : String} {af : Array Edge} {cl : Call} {k : FuncId} {first cap es args : List AV} {r : AV}
theorem borrow_calls (hspec : PSpec c.P k args r) {β : Emb} {a : Act} {w : World} (hs : SatB c ⟨T, H, M⟩ β a w) {vs : List Value} (hA : Args c.F β w (first ++ es ++ cap) vs) (hargs : AV.mapNL (brwL H) (first ++ es ++ cap) = args) (hr : r.flat = true) :
    Calls c.P k vs.toArray w (fun e w' => ∃ v, e = .returned v ∧ BelowD w w' ∧ ∀ F' β' w'', VRel F' β' w'' r v) := by
  have hH : HRel c.F noEmb [] w := ⟨(fun b o h => by cases h), (fun b p h => by cases h), (fun b b' p p' h => by cases h), hs.heap.fresh, (fun b p h => by cases h), hs.heap.glob.mono (Nat.le_refl _) (fun _ hk => .inl (hk.elim .inl (fun h => (own_noEmb _ h).elim))) (fun _ _ _ => rfl)⟩
  have hA' : Args c.F noEmb w args vs := by
    rw [← hargs, mapNL_map]
    refine ⟨by simpa using hA.1, fun i x v hx hv => ?_⟩
    rw [List.getElem?_map, Option.map_eq_some_iff] at hx
    obtain ⟨y, hy, rfl⟩ := hx
    exact hs.borrow (hA.2 i y v hy hv)
  refine (hspec.2 c.F noEmb w vs hH hA').mono ?_
  rintro e w' ⟨r', v, H', M', β', rfl, ⟨rfl, rfl⟩, hH', hv, hkp, _⟩
  exact ⟨v, rfl, hkp.belowD own_noEmb, fun F' β'' w'' => hv.flat hr⟩
theorem RL_bcall (hspec : PSpec P k args r) (hP : c.P = P) (hk : calleeOf T cl.callee = some (k, first, cap)) (ha : opvL T cl.args.toList = some es) (hargs : AV.mapNL (brwL H) (first ++ es ++ cap) = args) (hr : r.flat = true) (hdo : dstOk c.N (some d) = true)
    (hnext : RunL c ops Q rest ⟨(d, r) :: T, H, M⟩) : RunL c ops Q (⟨some d, .call cl, ty, pos, af, none⟩ :: rest) ⟨T, H, M⟩ := by
  subst hP
  rintro a w ⟨β, hs⟩
  obtain ⟨vs, hA, hrun⟩ := run_call_op (o := ⟨some d, .call cl, ty, pos, af, none⟩) hs hk ha hspec.1 rfl
  refine wpList_plain rfl fun K hK => ?_
  unfold Oper.wp
  rw [hrun w, Oper.upon_enter]
  refine (borrow_calls hspec hs hA hargs hr).mono ?_
  rintro e w' ⟨v, rfl, hb, hv⟩
  exact hK _ _ (hnext _ _ ⟨β, (hs.later hb).put hdo (hv _ _ _)⟩)
theorem RN_bcall (hspec : PSpec P k args r) (hP : c.P = P) (hk : calleeOf T cl.callee = some (k, first, cap)) (ha : opvL T cl.args.toList = some es) (hargs : AV.mapNL (brwL H) (first ++ es ++ cap) = args) (hr : r.flat = true) (hdo : dstOk c.N (some d) = true)
    (hnext : RunM c ops hot Q l ⟨(d, r) :: T, H, M⟩) : RunN c ops hot Q i true ⟨some d, .call cl, ty, pos, af, none⟩ l ⟨T, H, M⟩ := by
  subst hP
  rintro g hi hwt a w ⟨β, hs⟩
  simp only [Plan.step, wpMix, wpOp, hi, (hwt a w β hs).trans (wanted_none rfl _), if_true]
  refine .inl ?_
  obtain ⟨vs, hA, hrun⟩ := run_call_op (o := ⟨some d, .call cl, ty, pos, af, g⟩) hs hk ha hspec.1 rfl
  unfold Oper.wp
  rw [hrun w, Oper.upon_enter]
  refine (borrow_calls hspec hs hA hargs hr).mono ?_
  rintro e w' ⟨v, rfl, hb, hv⟩
  exact ⟨.inr hb.1, hnext _ _ ⟨β, (hs.later hb).put hdo (hv _ _ _)⟩⟩
end

/-! ### More tests whose outcome is known by a fact -/
section
variable {c : Ctx} {Q : Exit → Act → World → Prop} {T : List (Nat × AV)} {H : List (Nat × AObj)} {M : List Nat} {ops : Array Oper} {rest : List Oper} {hot : List Nat} {l : Plan} {i : Nat} {d : Tmp} {ty : TypeId} {pos : String} {af : Array Edge} {op : Op} {j q : Nat} {b b' f : Bool} {e : Bool} {x : Operand}
theorem RL_offP (hj : ((ops[j]?).bind (·.dst)) = some q) (hx : get T q = some (.pl (.bool f))) (hf : f = b') (hne : (b' == b) = false) (hd : dstOk c.N (some d) = true) (h : RunL c ops Q rest ⟨(d, .gone) :: T, H, M⟩) : RunL c ops Q (⟨some d, op, ty, pos, af, some (j, b)⟩ :: rest) ⟨T, H, M⟩ := by
  subst hf; exact RL_off hj hx hne hd h
theorem RN_offP (hj : ((ops[j]?).bind (·.dst)) = some q) (hx : get T q = some (.pl (.bool f))) (hf : f = b') (hne : (b' == b) = false) (hd : dstOk c.N (some d) = true) (h : RunM c ops hot Q l ⟨(d, .gone) :: T, H, M⟩) : RunN c ops hot Q i e ⟨some d, op, ty, pos, af, some (j, b)⟩ l ⟨T, H, M⟩ := by
  subst hf; exact RN_off hj hx hne hd h
theorem RL_pickF {y z : Operand} {ax : AV} (hc : opv T x = some (.pl (.bool f))) (hf : f = false) (hx : opv T z = some ax) (hdo : dstOk c.N (some d) = true) (hnext : RunL c ops Q rest ⟨(d, ax) :: T, H, M⟩) : RunL c ops Q (⟨some d, .pick x y z, ty, pos, af, none⟩ :: rest) ⟨T, H, M⟩ := by
  subst hf; exact RunL_q (s := ⟨T, H, M⟩) (q_pick_false hc hx) rfl hdo hnext
theorem RN_pickF {y z : Operand} {ax : AV} (hc : opv T x = some (.pl (.bool f))) (hf : f = false) (hx : opv T z = some ax) (hdo : dstOk c.N (some d) = true) (hnext : RunM c ops hot Q l ⟨(d, ax) :: T, H, M⟩) : RunN c ops hot Q i false ⟨some d, .pick x y z, ty, pos, af, none⟩ l ⟨T, H, M⟩ := by
  subst hf; exact RunN_q (s := ⟨T, H, M⟩) (q_pick_false hc hx) rfl hdo hnext
end
/-! ### A contract at stronger arguments -/
def LeA : List AV → List AV → Prop
  | [], [] => True
  | x :: xs, y :: ys => AV.Le x y ∧ LeA xs ys
  | _, _ => False
theorem LeA.get : ∀ {xs ys : List AV} (h : LeA xs ys), xs.length = ys.length ∧ ∀ (i : Nat) (y : AV), ys[i]? = some y → ∃ x, xs[i]? = some x ∧ AV.Le x y
  | [], [], _ => ⟨rfl, by simp⟩
  | x :: xs, y :: ys, h => ⟨by simp [(LeA.get h.2).1], fun i z hz => by
      cases i with
      | zero => simp at hz; subst hz; exact ⟨x, rfl, h.1⟩
      | succ i => simpa using (LeA.get h.2).2 i z (by simpa using hz)⟩
  | [], _ :: _, h => h.elim
  | _ :: _, [], h => h.elim
theorem AV.Le.refl (x : AV) : AV.Le x x := fun _ _ _ _ h => h
theorem AV.CLe.agg {xs ys : List AV} (h : LeL xs ys) (hl : xs.length = ys.length) : AV.CLe (.agg xs) (.agg ys) := fun O w v hv => by
  cases hv with
  | agg hl' hall =>
    refine .agg (hl ▸ hl') fun i y v hy hv => ?_
    obtain ⟨x, hx, hle⟩ := h.get hy
    exact hle _ _ _ (hall i x v hx hv)
theorem ASpec.le {P : Program} {k : FuncId} {xs ys : List AV} {H : List (Nat × AObj)} {Q : Post} (h : ASpec P k ys H Q) (hle : LeA xs ys) : ASpec P k xs H Q :=
  ⟨h.1, fun F β w vs hH ha => h.2 F β w vs hH ⟨hle.get.1 ▸ ha.1, fun i y v hy hv => by
    obtain ⟨x, hx, hl⟩ := hle.get.2 i y hy
    exact hl _ _ _ _ (ha.2 i x v hx hv)⟩⟩
end Go.Abs
