/-
  RETURNS of functions that leave nothing; steps of guards with the state written out. Generic over the program. Conditions: none.
-/
import Derived.Test.YtebcdmfekidfoaaDoorAbsTab
set_option linter.unusedVariables false
set_option linter.unusedSectionVars false
namespace Go.Abs
open Go
variable [GTab]
theorem hget_mem : ∀ {H : List (Nat × AObj)} {b : Nat} {o : AObj}, hget H b = some o → b ∈ H.map (·.1)
  | [], b, o, h => by cases h
  | (j, x) :: r, b, o, h => by
    rw [hget_cons] at h
    by_cases e : j = b
    · subst e; simp
    · rw [if_neg e] at h; simp; exact .inr (by simpa using hget_mem h)
theorem mem_of : ∀ {b : Nat} {l : List Nat}, b ∈ l → mem b l = true
  | b, x :: r, h => by
    rw [mem_cons]
    rcases List.mem_cons.1 h with rfl | h
    · simp
    · simp [mem_of h]
theorem mem_append (b : Nat) : ∀ (l l' : List Nat), mem b (l ++ l') = (mem b l || mem b l')
  | [], l' => by simp [mem]
  | x :: r, l' => by rw [List.cons_append, mem_cons, mem_cons, mem_append b r l', Bool.or_assoc]

theorem retP {c : Ctx} {s : St} {a : Act} {w : World} (hs : Sat c s a w) {fn : Func} {r : AV} (h : resAV c.U s.T s.H fn.results.toList = some r) (hcl : r.closed = true) {Q : Post} (hq : ∀ M, Q r [] M) :
    a.defers = [] ∧ ∃ v, (results fn a.tmps).run c.P w = .ok v w ∧ Rpost Q c.F c.β0 c.w0 (.returned v) w := by
  obtain ⟨β', hs⟩ := hs
  obtain ⟨u, hu, hr⟩ := run_results hs h
  refine ⟨hs.defers, u, hu, r, u, [], s.M ++ s.H.map (·.1), noEmb, rfl, hq _, ⟨(fun b o h => by cases h), (fun b p h => by cases h), (fun b b' p p' h => by cases h), hs.heap.fresh, (fun b p h => by cases h), hs.heap.glob.mono (Nat.le_refl _) (fun _ hk => .inl (hk.elim .inl (fun h => (own_noEmb _ h).elim))) (fun _ _ _ => rfl)⟩, ?_, ?_, fun b p hp hm => ?_⟩
  · exact .c ((hr.closed hcl).mono (Nat.le_refl _) (fun b hb => .inl (hb.elim .inl (fun h => (own_noEmb _ h).elim))) (fun _ _ _ => rfl))
  · exact ⟨hs.keeps.os, hs.keeps.tape, hs.keeps.output, hs.keeps.size, hs.keeps.block, fun k hk => (own_noEmb _ hk).elim⟩
  · rw [mem_append, Bool.or_eq_false_iff] at hm
    obtain ⟨o, ho⟩ := hs.heap.dom b p (hs.stay b p hp hm.1)
    rw [mem_of (hget_mem ho)] at hm
    cases hm.2

section
variable {P : Program} {U : List (Nat × TI)} {hU : ∀ t i, tget U t = some i → P.underlying t = some i.desc ∧ ∃ info, P.info? t = some info ∧ info.size = i.size ∧ info.bytes = i.bytes ∧ info.zero = some i.zero}
    {F : Nat → Prop} {β : Emb} {w0 : World} {N : Nat} {fn : Func} {T : List (Nat × AV)} {H : List (Nat × AObj)} {M : List Nat} {r r' : AV}
/-- The return of a function that leaves its result alone. -/
theorem Fin_retP (h : resAV U T H fn.results.toList = some r') (hcl : r'.closed = true) (e : r' = r) : Fin ⟨P, U, hU, F, β, w0, N⟩ (bodyPost P fn (Rpost (fun x H' _ => x = r ∧ H' = []) F β w0)) .ret ⟨T, H, M⟩ :=
  fun a w hs => retP hs h hcl fun _ => ⟨e, rfl⟩
theorem Fin_endP (h : resAV U T H fn.results.toList = some r') (hcl : r'.closed = true) (e : r' = r) : Fin ⟨P, U, hU, F, β, w0, N⟩ (bodyPost P fn (Rpost (fun x H' _ => x = r ∧ H' = []) F β w0)) .normal ⟨T, H, M⟩ :=
  fun a w hs => retP hs h hcl fun _ => ⟨e, rfl⟩
end

section
variable {c : Ctx} {Q : Exit → Act → World → Prop} {T : List (Nat × AV)} {H : List (Nat × AObj)} {M : List Nat} {ops : Array Oper} {rest : List Oper} {op : Op} {d : Tmp} {ty : TypeId} {pos : String} {af : Array Edge} {j : Nat} {b : Bool} {q : Nat}
theorem RL_on (hj : ((ops[j]?).bind (·.dst)) = some q) (hx : get T q = some (.pl (.bool b))) (h : RunL c ops Q (⟨some d, op, ty, pos, af, none⟩ :: rest) ⟨T, H, M⟩) : RunL c ops Q (⟨some d, op, ty, pos, af, some (j, b)⟩ :: rest) ⟨T, H, M⟩ :=
  RunL_on (s := ⟨T, H, M⟩) rfl hj hx h
theorem RL_off {b' : Bool} (hj : ((ops[j]?).bind (·.dst)) = some q) (hx : get T q = some (.pl (.bool b'))) (hne : (b' == b) = false) (hd : dstOk c.N (some d) = true) (h : RunL c ops Q rest ⟨(d, .gone) :: T, H, M⟩) : RunL c ops Q (⟨some d, op, ty, pos, af, some (j, b)⟩ :: rest) ⟨T, H, M⟩ :=
  RunL_off (s := ⟨T, H, M⟩) rfl hj hx hne hd h
theorem RL_split {e : Bool} (hj : ((ops[j]?).bind (·.dst)) = some q) (hx : get T q = some (.pl (.bool e))) (ht : e = true → RunL c ops Q (⟨some d, op, ty, pos, af, some (j, b)⟩ :: rest) ⟨(q, .pl (.bool true)) :: T, H, M⟩)
    (hf : e = false → RunL c ops Q (⟨some d, op, ty, pos, af, some (j, b)⟩ :: rest) ⟨(q, .pl (.bool false)) :: T, H, M⟩) : RunL c ops Q (⟨some d, op, ty, pos, af, some (j, b)⟩ :: rest) ⟨T, H, M⟩ :=
  RunL_split (s := ⟨T, H, M⟩) rfl hj hx ht hf
theorem RQ_on (hj : ((ops[j]?).bind (·.dst)) = some q) (hx : get T q = some (.pl (.bool b))) (h : RunQ c ops Q (⟨some d, op, ty, pos, af, none⟩ :: rest) ⟨T, H, M⟩) : RunQ c ops Q (⟨some d, op, ty, pos, af, some (j, b)⟩ :: rest) ⟨T, H, M⟩ :=
  RunQ_on (s := ⟨T, H, M⟩) rfl hj hx h
theorem RQ_off {b' : Bool} (hj : ((ops[j]?).bind (·.dst)) = some q) (hx : get T q = some (.pl (.bool b'))) (hne : (b' == b) = false) (hd : dstOk c.N (some d) = true) (h : RunQ c ops Q rest ⟨(d, .gone) :: T, H, M⟩) : RunQ c ops Q (⟨some d, op, ty, pos, af, some (j, b)⟩ :: rest) ⟨T, H, M⟩ :=
  RunQ_off (s := ⟨T, H, M⟩) rfl hj hx hne hd h
theorem RQ_split {e : Bool} (hj : ((ops[j]?).bind (·.dst)) = some q) (hx : get T q = some (.pl (.bool e))) (ht : e = true → RunQ c ops Q (⟨some d, op, ty, pos, af, some (j, b)⟩ :: rest) ⟨(q, .pl (.bool true)) :: T, H, M⟩)
    (hf : e = false → RunQ c ops Q (⟨some d, op, ty, pos, af, some (j, b)⟩ :: rest) ⟨(q, .pl (.bool false)) :: T, H, M⟩) : RunQ c ops Q (⟨some d, op, ty, pos, af, some (j, b)⟩ :: rest) ⟨T, H, M⟩ :=
  RunQ_split (s := ⟨T, H, M⟩) rfl hj hx ht hf
/-- A call that owns nothing, by what is known of it. -/
theorem RL_call {cl : Call} {k : FuncId} {first cap es : List AV} {r : AV} (hspec : PSpec c.P k (first ++ es ++ cap) r) (hk : calleeOf T cl.callee = some (k, first, cap)) (ha : opvL T cl.args.toList = some es) (hcl : AV.closedL (first ++ es ++ cap) = true) (hd : dstOk c.N (some d) = true)
    (hr : RunL c ops Q rest ⟨(d, r) :: T, H, M⟩) : RunL c ops Q (⟨some d, .call cl, ty, pos, af, none⟩ :: rest) ⟨T, H, M⟩ := RunL_call (s := ⟨T, H, M⟩) rfl hk ha hspec hcl rfl hd hr
theorem RQ_call {cl : Call} {k : FuncId} {first cap es : List AV} {r : Value} (hspec : PSpec c.P k (first ++ es ++ cap) (.pl r)) (hk : calleeOf T cl.callee = some (k, first, cap)) (ha : opvL T cl.args.toList = some es) (hcl : AV.closedL (first ++ es ++ cap) = true) (hd : dstOk c.N (some d) = true)
    (hr : RunQ c ops Q rest ⟨(d, .pl r) :: T, H, M⟩) : RunQ c ops Q (⟨some d, .call cl, ty, pos, af, none⟩ :: rest) ⟨T, H, M⟩ := RunQ_call (s := ⟨T, H, M⟩) rfl hk ha hspec hcl rfl hd hr
end
end Go.Abs
