/-
  FUNCTIONS: what a call does to abstract states; entry, return, calls. Generic over the program. Conditions: none.
-/
import Derived.Test.YtipbfnjpfmmkfaaGreatDoorAbsOps
import Derived.Shelf.Abstract
set_option linter.unusedVariables false
set_option linter.unusedSimpArgs false
set_option linter.unusedSectionVars false
namespace Go.Abs
open Go
variable [GTab]

/-- What a call may leave: its result, the objects that it owns, the names that may have been moved or let go. -/
abbrev Post := AV → List (Nat × AObj) → List Nat → Prop

def Rpost (Q : Post) (F : Nat → Prop) (β : Emb) (w : World) (e : Ending) (w' : World) : Prop :=
  ∃ r v H' M β', e = .returned v ∧ Q r H' M ∧ HRel F β' H' w' ∧ VRel F β' w' r v ∧ Keeps β w β' w' ∧ (∀ b p, β b = some p → mem b M = false → β' b = some p)

def Args (F : Nat → Prop) (β : Emb) (w : World) (args : List AV) (vs : List Value) : Prop :=
  args.length = vs.length ∧ ∀ (i : Nat) (x : AV) (v : Value), args[i]? = some x → vs[i]? = some v → VRel F β w x v

/-- **What a call does**, from whatever world. -/
def ASpec (P : Program) (k : FuncId) (args : List AV) (H : List (Nat × AObj)) (Q : Post) : Prop :=
  (∀ (es : Array Value) (w : World), (callFunc k es).run P w = .ok (.enter k es) w) ∧
  ∀ (F : Nat → Prop) (β : Emb) (w : World) (vs : List Value), HRel F β H w → Args F β w args vs → Calls P k vs.toArray w (Rpost Q F β w)

/-- A call that owns nothing and leaves nothing: its result alone. -/
def PSpec (P : Program) (k : FuncId) (args : List AV) (r : AV) : Prop := ASpec P k args [] (fun r' H' _ => r' = r ∧ H' = [])

def enumT : Nat → List AV → List (Nat × AV)
  | _, [] => []
  | i, x :: r => (i, x) :: enumT (i + 1) r
theorem get_enumT : ∀ (l : List AV) (n i : Nat), get (enumT n l) i = if n ≤ i then l[i - n]? else none
  | [], n, i => by simp [enumT, get]
  | x :: r, n, i => by
    rw [enumT, get_cons, get_enumT r (n + 1) i]
    by_cases h : n = i
    · subst h; simp
    · rw [if_neg h]
      by_cases h2 : n ≤ i
      · rw [if_pos h2, if_pos (by omega), show i - n = (i - (n + 1)) + 1 by omega, List.getElem?_cons_succ]
      · rw [if_neg h2, if_neg (by omega)]

theorem ASpec.mono {P : Program} {k : FuncId} {args : List AV} {H : List (Nat × AObj)} {Q Q' : Post} (h : ASpec P k args H Q) (hq : ∀ r H M, Q r H M → Q' r H M) : ASpec P k args H Q' :=
  ⟨h.1, fun F β w vs hH ha => (h.2 F β w vs hH ha).mono fun e w' ⟨r, v, H', M, β', he, hQ, rest⟩ => ⟨r, v, H', M, β', he, hq _ _ _ hQ, rest⟩⟩

/-! ### The return -/
def resOne (U : List (Nat × TI)) (T : List (Nat × AV)) (H : List (Nat × AObj)) : ResultVar → Option AV
  | .tmp t => get T t
  | .cell t ty => match get T t with
    | none => none
    | some ax => match memAt H ax with
      | none => none
      | some cs => match tget U ty with
        | none => none
        | some ti => match aggD ti.desc with
          | true => match Nat.beq (cs.take ti.size).length ti.size with
            | true => some (.agg (cs.take ti.size))
            | false => none
          | false => cs.head?
def resL (U : List (Nat × TI)) (T : List (Nat × AV)) (H : List (Nat × AObj)) : List ResultVar → Option (List AV)
  | [] => some []
  | x :: r => match resOne U T H x with
    | none => none
    | some a => match resL U T H r with
      | none => none
      | some l => some (a :: l)
def resAV (U : List (Nat × TI)) (T : List (Nat × AV)) (H : List (Nat × AObj)) (rs : List ResultVar) : Option AV :=
  match resL U T H rs with
  | none => none
  | some [x] => some x
  | some l => some (.tup l)

theorem run_load_of {c : Ctx} {s : St} {β : Emb} {a : Act} {w : World} (hs : SatB c s β a w) {ty : TypeId} {ti : TI} (ht : tget c.U ty = some ti) {ax : AV} {v : Value} (hv : VRel c.F β w ax v) {cs : List AV} (hm : memAt s.H ax = some cs) {r : AV}
    (hr : (aggD ti.desc = true ∧ (cs.take ti.size).length = ti.size ∧ r = .agg (cs.take ti.size)) ∨ (aggD ti.desc = false ∧ cs.head? = some r)) :
    ∃ ad u, v = .pointer (some ad) ∧ (loadVar ty ad).run c.P w = .ok u w ∧ VRel c.F β w r u := by
  obtain ⟨b, o, hv', hb, h⟩ := hs.mem hv hm
  have hop : opv ((0, ax) :: []) (.tmp 0) = some ax := rfl
  have hsl : SatB ⟨c.P, c.U, c.hU, c.F, c.β0, c.w0, 1⟩ ⟨[(0, ax)], s.H, s.M⟩ β ⟨#[v], []⟩ w := by
    refine ⟨rfl, rfl, hs.heap, fun i x hx => ?_, hs.keeps, hs.stay⟩
    rw [get_cons] at hx
    by_cases e : 0 = i
    · rw [if_pos e] at hx; cases hx; subst e; exact ⟨v, rfl, hv⟩
    · rw [if_neg e] at hx; cases hx
  rcases hr with ⟨ha, hl, rfl⟩ | ⟨ha, hc⟩
  · obtain ⟨u, hu, hrun⟩ := q_load_agg (c := ⟨c.P, c.U, c.hU, c.F, c.β0, c.w0, 1⟩) (d := none) (ty := 0) (pos := "") (af := #[]) (g := none) ht ha (s := ⟨[(0, ax)], s.H, s.M⟩) hop hm rfl hl _ w β hsl
    refine ⟨_, u, hv', ?_, hu⟩
    have := hrun w (RowKit.Below.refl _ _)
    simp [execOp, Act.eval, hv', Instr.loadAt, Instr.sureAddr] at this
    generalize hq : (loadVar ty ⟨b, o, none⟩).run c.P w = q at this
    cases q with
    | ok a w1 => simp at this; obtain ⟨rfl, rfl⟩ := this; rfl
    | halt x w1 => simp at this
  · obtain ⟨u, hu, hrun⟩ := q_load (c := ⟨c.P, c.U, c.hU, c.F, c.β0, c.w0, 1⟩) (d := none) (ty := 0) (pos := "") (af := #[]) (g := none) ht ha (s := ⟨[(0, ax)], s.H, s.M⟩) hop hm hc _ w β hsl
    refine ⟨_, u, hv', ?_, hu⟩
    have := hrun w (RowKit.Below.refl _ _)
    simp [execOp, Act.eval, hv', Instr.loadAt, Instr.sureAddr] at this
    generalize hq : (loadVar ty ⟨b, o, none⟩).run c.P w = q at this
    cases q with
    | ok a w1 => simp at this; obtain ⟨rfl, rfl⟩ := this; rfl
    | halt x w1 => simp at this

def resSem (tmps : Array Value) : ResultVar → Sem Value
  | .tmp t => pure (tmps.getD t undef)
  | .cell ad t => do loadVar t (← asAddr (tmps.getD ad undef))
theorem results_eq (fn : Func) (tmps : Array Value) : results fn tmps = (do
    let vs ← List.toArray <$> fn.results.toList.mapM (resSem tmps)
    pure (if h : vs.size = 1 then vs[0] else .tuple vs)) := by
  unfold results
  rw [← List.mapM_toArray, Array.toArray_toList]
  rfl
theorem run_resOne {c : Ctx} {s : St} {β : Emb} {a : Act} {w : World} (hs : SatB c s β a w) {x : ResultVar} {r : AV} (h : resOne c.U s.T s.H x = some r) :
    ∃ u, (resSem a.tmps x).run c.P w = .ok u w ∧ VRel c.F β w r u := by
  cases x with
  | tmp t => exact ⟨_, rfl, hs.op (o := .tmp t) h⟩
  | cell t ty =>
    simp only [resOne] at h
    split at h
    · cases h
    rename_i ax hax
    split at h
    · cases h
    rename_i cs hm
    split at h
    · cases h
    rename_i ti ht
    have hv := hs.op (o := .tmp t) hax
    have key : (aggD ti.desc = true ∧ (cs.take ti.size).length = ti.size ∧ r = .agg (cs.take ti.size)) ∨ (aggD ti.desc = false ∧ cs.head? = some r) := by
      split at h
      · rename_i ha
        split at h
        · rename_i hb
          exact .inl ⟨ha, Nat.eq_of_beq_eq_true hb, by cases h; rfl⟩
        · cases h
      · rename_i ha
        exact .inr ⟨ha, h⟩
    obtain ⟨ad, u, hv', hrun, hr⟩ := run_load_of hs ht hv hm key
    refine ⟨u, ?_, hr⟩
    have hv2 : a.tmps.getD t undef = .pointer (some ad) := hv'
    simp only [resSem, hv2, asAddr, Sem.run_bind, Sem.run_pure, Result.andThen_ok, hrun]

theorem run_resL {c : Ctx} {s : St} {β : Emb} {a : Act} {w : World} (hs : SatB c s β a w) : ∀ {rs : List ResultVar} {l : List AV}, resL c.U s.T s.H rs = some l →
    ∃ us : List Value, (rs.mapM (resSem a.tmps)).run c.P w = .ok us w ∧ us.length = l.length ∧
      ∀ (i : Nat) (x : AV) (u : Value), l[i]? = some x → us[i]? = some u → VRel c.F β w x u
  | [], l, h => by cases h; exact ⟨[], rfl, rfl, by simp⟩
  | x :: r, l, h => by
    simp only [resL] at h
    split at h
    · cases h
    rename_i a1 h1
    split at h
    · cases h
    rename_i l1 h2
    cases h
    obtain ⟨u, hu, hr⟩ := run_resOne hs h1
    obtain ⟨us, hus, hlen, hall⟩ := run_resL hs h2
    refine ⟨u :: us, ?_, by simp [hlen], fun i y v hy hv => ?_⟩
    · rw [List.mapM_cons]
      simp only [Sem.run_bind, hu, Result.andThen_ok, hus, Sem.run_pure]
    · cases i with
      | zero => simp at hy hv; subst hy; subst hv; exact hr
      | succ i => exact hall i y v (by simpa using hy) (by simpa using hv)

theorem run_results {c : Ctx} {s : St} {β : Emb} {a : Act} {w : World} (hs : SatB c s β a w) {fn : Func} {r : AV} (h : resAV c.U s.T s.H fn.results.toList = some r) :
    ∃ u, (results fn a.tmps).run c.P w = .ok u w ∧ VRel c.F β w r u := by
  unfold resAV at h
  split at h
  · cases h
  · rename_i x hx
    cases h
    obtain ⟨us, hus, hlen, hall⟩ := run_resL hs hx
    match us, hlen with
    | [u], _ =>
      refine ⟨u, ?_, hall 0 _ u rfl rfl⟩
      rw [results_eq]
      simp only [Sem.run_bind, Sem.run_map, hus, Result.andThen_ok, Sem.run_pure]
      simp
  · rename_i l hl hx
    cases h
    obtain ⟨us, hus, hlen, hall⟩ := run_resL hs hx
    refine ⟨.tuple us.toArray, ?_, .tup (by simp [hlen]) (fun i x v hx hv => hall i x v hx (by simpa using hv))⟩
    rw [results_eq]
    simp only [Sem.run_bind, Sem.run_map, hus, Result.andThen_ok, Sem.run_pure]
    have : ¬ us.length = 1 := fun h1 => by
      rw [hlen] at h1
      match l, h1 with
      | [z], _ => exact hl z rfl
    simp [this]

/-! ### Calls -/
mutual
def AV.closed : AV → Bool
  | .pl _ => true
  | .agg cs => AV.closedL cs
  | .tup cs => AV.closedL cs
  | .fn _ cs ds => AV.closedL cs && AV.closedL ds
  | .ifc _ x => AV.closed x
  | .optr _ _ => true
  | .vs _ _ => true
  | .vm _ _ => true
  | _ => false
def AV.closedL : List AV → Bool
  | [] => true
  | x :: r => AV.closed x && AV.closedL r
end
theorem AV.closedL_get : ∀ {l : List AV} (h : AV.closedL l = true) {i : Nat} {x : AV}, l[i]? = some x → x.closed = true
  | [], _, i, x, hx => by simp at hx
  | y :: r, h, 0, x, hx => by simp [AV.closedL] at h hx; subst hx; exact h.1
  | y :: r, h, i + 1, x, hx => by simp [AV.closedL] at h hx; exact AV.closedL_get h.2 hx
theorem VRel.closed {F : Nat → Prop} {β : Emb} {w : World} {x : AV} {v : Value} (h : VRel F β w x v) (hc : x.closed = true) : CRel (off F β) w x v := by
  induction h with
  | c h => exact h
  | agg hl _ ih => exact .agg hl fun i x v hx hv => ih i x v hx hv (AV.closedL_get (by simpa [AV.closed] using hc) hx)
  | tup hl _ ih => exact .tup hl fun i x v hx hv => ih i x v hx hv (AV.closedL_get (by simpa [AV.closed] using hc) hx)
  | fn hl _ hl2 _ ih ih2 =>
    simp only [AV.closed, Bool.and_eq_true] at hc
    exact .fn hl (fun i x v hx hv => ih i x v hx hv (AV.closedL_get hc.1 hx)) hl2 (fun i x v hx hv => ih2 i x v hx hv (AV.closedL_get hc.2 hx))
  | ifc _ ih => exact .ifc (ih (by simpa [AV.closed] using hc))
  | _ => simp [AV.closed] at hc

def noEmb : Emb := fun _ => none
theorem own_noEmb (k : Nat) : ¬ own noEmb k := by rintro ⟨b, p, h, _⟩; cases h

/-- A result over no embedding. -/
theorem VRel.up {F F' : Nat → Prop} {β β' : Emb} {w w' : World} (hn : ∀ b, β' b = none) (hs : w.heap.size ≤ w'.heap.size) (hO : ∀ b, off F β b → off F' β' b ∨ w.heap.size ≤ b)
    (hw : ∀ b, b < w.heap.size → ¬ off F' β' b → w'.heap[b]? = w.heap[b]?) {x : AV} {v : Value} (h : VRel F' β' w x v) : VRel F β w' x v := by
  induction h with
  | c h => exact .c (h.mono hs hO hw)
  | agg hl _ ih => exact .agg hl ih
  | tup hl _ ih => exact .tup hl ih
  | fn hl _ hl2 _ ih ih2 => exact .fn hl ih hl2 ih2
  | ifc _ ih => exact .ifc ih
  | ptr hp _ => rw [hn] at hp; cases hp
  | pnil => exact .pnil
  | sl hp _ _ _ => rw [hn] at hp; cases hp
  | slz hp ha => rw [hn] at hp; cases hp
  | mp hp _ => rw [hn] at hp; cases hp
  | it hp _ => rw [hn] at hp; cases hp
  | anyp => exact .anyp
  | junk h => exact .junk h
  | gone => exact .gone

def opvL (T : List (Nat × AV)) : List Operand → Option (List AV)
  | [] => some []
  | x :: r => match opv T x with
    | none => none
    | some a => match opvL T r with
      | none => none
      | some l => some (a :: l)
theorem opvL_get {c : Ctx} {s : St} {β : Emb} {a : Act} {w : World} (hs : SatB c s β a w) : ∀ {xs : List Operand} {l : List AV}, opvL s.T xs = some l → Args c.F β w l (xs.map a.eval)
  | [], l, h => by cases h; exact ⟨rfl, by simp⟩
  | x :: r, l, h => by
    simp only [opvL] at h
    split at h
    · cases h
    rename_i a1 h1
    split at h
    · cases h
    rename_i l1 h2
    cases h
    obtain ⟨hl, hall⟩ := opvL_get hs h2
    refine ⟨by simp [hl], fun i y v hy hv => ?_⟩
    cases i with
    | zero => simp at hy hv; subst hy; subst hv; exact hs.op h1
    | succ i => exact hall i y v (by simpa using hy) (by simpa using hv)

/-- Who is called: a function's number, what stands ahead of the arguments, and behind them. -/
def calleeOf (T : List (Nat × AV)) : Callee → Option (FuncId × List AV × List AV)
  | .value f => match opv T f with
    | some (.fn (.func k) first cap) => some (k, first, cap)
    | _ => none
  | _ => none

theorem Args.append {F : Nat → Prop} {β : Emb} {w : World} {l1 l2 : List AV} {v1 v2 : List Value} (h1 : Args F β w l1 v1) (h2 : Args F β w l2 v2) : Args F β w (l1 ++ l2) (v1 ++ v2) := by
  refine ⟨by simp [h1.1, h2.1], fun i x v hx hv => ?_⟩
  by_cases h : i < l1.length
  · rw [List.getElem?_append_left h] at hx
    rw [List.getElem?_append_left (by rw [← h1.1]; exact h)] at hv
    exact h1.2 i x v hx hv
  · rw [List.getElem?_append_right (by omega)] at hx
    rw [List.getElem?_append_right (by rw [← h1.1]; omega), ← h1.1] at hv
    exact h2.2 _ x v hx hv

theorem run_call_op {c : Ctx} {s : St} {β : Emb} {a : Act} {w : World} (hs : SatB c s β a w) {cl : Call} {k : FuncId} {first cap es : List AV} (hk : calleeOf s.T cl.callee = some (k, first, cap)) (ha : opvL s.T cl.args.toList = some es)
    (hent : ∀ (es : Array Value) (w : World), (callFunc k es).run c.P w = .ok (.enter k es) w) (o : Oper) (ho : o.op = .call cl) :
    ∃ vs : List Value, Args c.F β w (first ++ es ++ cap) vs ∧ ∀ w', (execOp a.eval o).run c.P w' = .ok (.enter k vs.toArray) w' := by
  obtain ⟨callee, cargs, argT⟩ := cl
  cases callee with
  | value f =>
    simp only [calleeOf] at hk
    split at hk
    · rename_i k' fi ca hf
      cases hk
      obtain ⟨v1, v2, hv, h1, h2⟩ := (hs.op hf).fn_inv
      have hargs := opvL_get hs ha
      have hA : Args c.F β w (first ++ es ++ cap) (v1.toList ++ cargs.toList.map a.eval ++ v2.toList) := by
        refine Args.append (Args.append ⟨by simp [h1.1], fun i x v hx hv => ?_⟩ hargs) ⟨by simp [h2.1], fun i x v hx hv => ?_⟩
        · obtain ⟨u, hu, hr⟩ := h1.2 i x hx
          simp only [Array.getElem?_toList] at hv
          rw [hu] at hv; cases hv; exact hr
        · obtain ⟨u, hu, hr⟩ := h2.2 i x hx
          simp only [Array.getElem?_toList] at hv
          rw [hu] at hv; cases hv; exact hr
      refine ⟨_, hA, fun w' => ?_⟩
      have hfull : v1 ++ Array.map a.eval cargs ++ v2 = (v1.toList ++ cargs.toList.map a.eval ++ v2.toList).toArray := by
        simp
      simp only [execOp, ho, resolve, hv, Deferred.ofValue, Sem.run_bind, Sem.run_pure, Result.andThen_ok, invoke, hent, hfull]
    · cases hk
  | invoke _ _ => cases hk
  | builtin _ => cases hk

theorem HRel.lt {F : Nat → Prop} {β : Emb} {H : List (Nat × AObj)} {w : World} (h : HRel F β H w) {k : Nat} (hk : off F β k) : k < w.heap.size := by
  rcases hk with hk | ⟨b, p, hp, hn, rfl⟩
  · exact h.fresh _ hk
  · obtain ⟨ob, hob⟩ := h.dom b p hp
    obtain ⟨p', hp', hr'⟩ := h.obj b ob hob
    rw [hp] at hp'; cases hp'
    cases ob with
    | row te k fz cs => obtain ⟨_, _, h3⟩ := hr'; obtain ⟨cv, fr, ht, _⟩ := h3 hn; exact (Array.getElem?_eq_some_iff.1 ht).1
    | box tb cs => obtain ⟨_, cv, fr, ht, _⟩ := hr'; exact (Array.getElem?_eq_some_iff.1 ht).1
    | map es => obtain ⟨_, ms, cl, ht, _⟩ := hr'; exact (Array.getElem?_eq_some_iff.1 ht).1
    | siter sx pos => exact (Array.getElem?_eq_some_iff.1 hr'.2).1
theorem HRel.empty {F : Nat → Prop} {β : Emb} {H : List (Nat × AObj)} {w : World} (h : HRel F β H w) : HRel (off F β) noEmb [] w where
  obj := fun b o h => by cases h
  dom := fun b p h => by cases h
  inj := fun b b' p p' h => by cases h
  fresh := fun k hk => h.lt hk
  apart := fun b p h => by cases h
  glob := h.glob.mono (Nat.le_refl _) (fun _ hk => .inl (hk.elim id (fun h => (own_noEmb _ h).elim))) (fun _ _ _ => rfl)

section
variable {c : Ctx} {Q : Exit → Act → World → Prop} {s : St} {ops : Array Oper} {rest : List Oper} {o : Oper}

/-- A call that owns nothing. -/
theorem RunL_call {cl : Call} {k : FuncId} {first cap es : List AV} {r : AV} (ho : o.op = .call cl) (hk : calleeOf s.T cl.callee = some (k, first, cap)) (ha : opvL s.T cl.args.toList = some es)
    (hspec : PSpec c.P k (first ++ es ++ cap) r) (hcl : AV.closedL (first ++ es ++ cap) = true) (hg : o.guard = none) (hd : dstOk c.N o.dst = true) (hr : RunL c ops Q rest ⟨putT s.T o.dst r, s.H, s.M⟩) : RunL c ops Q (o :: rest) s := by
  rintro a w ⟨β, hs⟩
  obtain ⟨vs, hargs, hrun⟩ := run_call_op hs hk ha hspec.1 o ho
  refine wpList_plain hg fun K hK => ?_
  unfold Oper.wp
  rw [hrun w, Oper.upon_enter]
  have hH : HRel (off c.F β) noEmb [] w := hs.heap.empty
  have hA : Args (off c.F β) noEmb w (first ++ es ++ cap) vs := ⟨hargs.1, fun i x v hx hv => by
    have := (hargs.2 i x v hx hv).closed (AV.closedL_get hcl hx)
    exact .c (this.mono (Nat.le_refl _) (fun b hb => .inl (hb.elim id (fun h => (own_noEmb _ h).elim))) (fun _ _ _ => rfl))⟩
  refine (hspec.2 (off c.F β) noEmb w vs hH hA).mono ?_
  rintro e w' ⟨r', v, H', M, β', rfl, ⟨rfl, rfl⟩, hH', hv, hkp, _⟩
  have hn : ∀ b, β' b = none := fun b => by
    cases hb : β' b with
    | none => rfl
    | some p => obtain ⟨o, ho⟩ := hH'.dom b p hb; cases ho
  have hbl' := hkp.belowD own_noEmb
  have hbl := hbl'.1
  have hs' := hs.later hbl'
  refine hK _ _ (hr _ _ ⟨β, hs'.put hd ?_⟩)
  exact hv.up hn (Nat.le_refl _) (fun b hb => .inl (.inl hb)) (fun _ _ _ => rfl)
end
end Go.Abs
