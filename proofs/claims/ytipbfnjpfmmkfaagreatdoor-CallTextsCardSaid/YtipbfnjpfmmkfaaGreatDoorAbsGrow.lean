/-
  ROOM: a new slice with room behind it, a buffer of whatever bytes, a copy of nothing; a whole number's complement, division by a variable. Generic over the program. Conditions: none.
-/
import Derived.Test.YtipbfnjpfmmkfaaGreatDoorAbsBld
import Derived.Lib.MakeNoZero
set_option linter.unusedVariables false
set_option linter.unusedSimpArgs false
set_option linter.unusedSectionVars false
namespace Go.Abs
open Go Go.RowKit Go.Proofs W
variable [GTab]
section
variable {c : Ctx} {s : St} {d : Option Tmp} {ty : TypeId} {pos : String} {af : Array Edge} {g : Option (Nat × Bool)}
theorem q_com {t : TypeId} {x : Operand} {k : IntKind} {n : Int} (hk : k.signed = true) (hx : opv s.T x = some (.pl (.int k n))) : QOp c ⟨d, .unOp .xor t x, ty, pos, af, g⟩ s (.pl (.int k (k.wrap (bxor k.bits (-1) n)))) :=
  q_un hx fun w' => by simp [Op.unary, hk, Op.intBits, W.bxor]
theorem e_mnz {k : FuncId} {fn : Func} {ps : Array TypeId} {cl : Call} {n : Int} {t e : TypeId} {ti ei : TI} (hf : c.P.funcs[k]? = some fn) (hname : (fn.name == "runtime.NumGoroutine") = false) (hb : fn.body.isNone = true) (hn : Extern.findNext fn = none)
    (hE : Extern.find fn = some (Extern.BytealgMakeNoZero.makeNoZero ps #[t])) (ht : tget c.U t = some ti) (htd : ti.desc = .slice e) (he : tget c.U e = some ei) (hk1 : ei.size = 1) (h0 : 0 ≤ n) (h48 : n ≤ 281474976710656)
    (hk : calleeOf s.T cl.callee = some (k, [], [])) (ha : opvL s.T cl.args.toList = some [.pl (.int .i64 n)]) (hbo : hget s.H (nm d) = none) (hd : dstOk c.N d = true) :
    EOpB c ⟨d, .call cl, ty, pos, af, g⟩ s ⟨putT s.T d (.sl (nm d) 0 n.toNat), (nm d, .row e 1 0 []) :: s.H, s.M⟩ := by
  intro a w β hs
  have hu : c.P.underlying t = some (.slice e) := (ty_under ht).trans (congrArg some htd)
  obtain ⟨vs, hA, hrun⟩ := run_call_any (o := ⟨d, .call cl, ty, pos, af, g⟩) hs hk ha rfl
  obtain ⟨hl, h⟩ := hA
  match vs, hl, h with
  | [v], _, h =>
    obtain rfl := (h 0 _ _ rfl rfl).pl_eq
    obtain ⟨cs, hr, hn1, _⟩ := Lib.run_makeNoZero (P := c.P) w ps t e hu n.toNat (by omega)
    rw [show ((n.toNat : Nat) : Int) = n by omega] at hr
    have hbd : BelowD w w.drew.drew := ⟨⟨rfl, rfl, rfl, Nat.le_refl _, fun _ _ => rfl⟩, by show w.drawn ≤ w.drawn + 1 + 1; omega⟩
    obtain ⟨β', hs', hv⟩ := hs.newrow2 hbd hbo cs e (k := 1) (n := n.toNat) (cap := cs.size) (cs := []) (Nat.zero_le _) hn1 (by omega) (fun j y hy => by simp at hy)
    refine ⟨_, β', ?_, _, hrun w _ _ ?_, hs'.put hd hv⟩
    · have hb1 : RowKit.Below w.heap.size w.drew.drew (w.drew.drew.alloc (.cells cs e)) := below_alloc w.drew.drew _
      exact hbd.1.trans hb1
    · rw [run_callFunc_extern hf hname hb hn hE]
      have : (Extern.BytealgMakeNoZero.makeNoZero ps #[t] #[.int .i64 n]).run c.P w = _ := hr
      simp [this, Result.andThen]
/-- Nothing is copied. -/
theorem q_copy0 {t t2 e : TypeId} {x y : Operand} {b o : Nat} {ti ei : TI} (ht : tget c.U t = some ti) (htd : ti.desc = .slice e) (he : tget c.U e = some ei) (hx : opv s.T x = some (.sl b o 0)) (hy : opv s.T y = some (.pl (.slice none 0 0))) :
    QOp c ⟨d, .call { callee := .builtin .copy, args := #[x, y], argTypes := #[t, t2] }, ty, pos, af, g⟩ s (.pl (.int .i64 0)) := by
  intro a w β hs
  have hu : c.P.underlying t = some (.slice e) := (ty_under ht).trans (congrArg some htd)
  obtain ⟨i, hi, hi1, _⟩ := ty_info he
  obtain ⟨p, hp, hcase⟩ := (hs.op hx).sl_inv2
  have hv2 : a.eval y = .slice none 0 0 := hs.pl hy
  have hx2 : ∃ A cp, a.eval x = .slice A 0 cp := by
    rcases hcase with ⟨_, cap, hv, _⟩ | ⟨_, A, hv, _⟩
    · exact ⟨_, _, hv⟩
    · exact ⟨_, _, hv⟩
  obtain ⟨A, cp, hv⟩ := hx2
  refine ⟨_, .c (.pl _), fun w' _ => ?_⟩
  cases A with
  | none =>
    simp [execOp, resolve, invoke, builtin, hv, hv2, Builtin.copy_, run_underlying hu, Builtin.lenOf, Builtin.firstCells, sizeOf, typeInfo, hi]
    rfl
  | some ad =>
    simp [execOp, resolve, invoke, builtin, hv, hv2, Builtin.copy_, run_underlying hu, Builtin.lenOf, Builtin.firstCells, sizeOf, typeInfo, hi, storeCells]
    rfl
end
section
variable {c : Ctx} {Q : Exit → Act → World → Prop} {T : List (Nat × AV)} {H : List (Nat × AObj)} {M : List Nat} {ops : Array Oper} {rest : List Oper} {d : Tmp} {ty : TypeId} {pos : String} {af : Array Edge} {hot : List Nat} {lq : Plan} {i0 : Nat}
theorem l_com {t : TypeId} {x : Operand} {k : IntKind} {n : Int} (hnext : RunL c ops Q rest ⟨(d, .pl (.int k (k.wrap (bxor k.bits (-1) n)))) :: T, H, M⟩) (hx : opv T x = some (.pl (.int k n)) := by exact rfl) (hk : k.signed = true := by exact rfl) (hdo : dstOk c.N (some d) = true := by exact rfl) : RunL c ops Q (⟨some d, .unOp .xor t x, ty, pos, af, none⟩ :: rest) ⟨T, H, M⟩ := RunL_q (s := ⟨T, H, M⟩) (q_com hk hx) rfl hdo hnext
theorem l_quoV {ρ : Type} {kk : Int → Option ρ} {r : ρ} {t t' : TypeId} {x y : Operand} {k : IntKind} {m n : Int} (h : (qv m n).bind kk = some r) (hn : ∀ v, qv m n = some v → kk v = some r → RunL c ops Q rest ⟨(d, .pl (.int k (k.wrap v))) :: T, H, M⟩) (hx : opv T x = some (.pl (.int k m)) := by exact rfl) (hy : opv T y = some (.pl (.int k n)) := by exact rfl) (hdo : dstOk c.N (some d) = true := by exact rfl) : RunL c ops Q (⟨some d, .binOp .quo t x y t', ty, pos, af, none⟩ :: rest) ⟨T, H, M⟩ := by
  obtain ⟨v, hv, h⟩ := bind_some h
  have h2 := hn v hv h
  obtain ⟨hne, rfl⟩ := qv_some hv
  exact RunL_q (s := ⟨T, H, M⟩) (q_quo hx hy hne) rfl hdo h2
/-- An empty slice with room. -/
theorem l_room {t : TypeId} {x y : Operand} {m : Int} {sz : Nat} {ti ei : TI} {et : TypeId} (hnext : RunL c ops Q rest ⟨(d, .sl (nm (some d)) 0 0) :: T, (nm (some d), .row et sz 0 []) :: H, M⟩) (ht : tget c.U t = some ti := by exact rfl) (htd : ti.desc = .slice et := by exact rfl) (he : tget c.U et = some ei := by exact rfl) (hk : ei.size = sz := by exact rfl) (hk0 : Nat.blt 0 sz = true := by exact rfl)
    (hx : opv T x = some (.pl (.int .i64 0)) := by exact rfl) (hy : opv T y = some (.pl (.int .i64 m)) := by exact rfl) (hf : fit (ofVal ei.zero) = true := by exact rfl) (hcl : AV.closedL (cellsA (ofVal ei.zero)) = true := by exact rfl) (hzl : (cellsA (ofVal ei.zero)).length = sz := by exact rfl)
    (hm : (decide (0 ≤ m) && decide (m * ei.bytes ≤ 281474976710656) && decide (m ≤ 9223372036854775807)) = true := by exact rfl) (hb : hget H (nm (some d)) = none := by exact rfl) (hdo : dstOk c.N (some d) = true := by exact rfl) : RunL c ops Q (⟨some d, .makeSlice t x y, ty, pos, af, none⟩ :: rest) ⟨T, H, M⟩ := by
  simp only [Bool.and_eq_true, decide_eq_true_eq] at hm
  exact RunL_e (s := ⟨T, H, M⟩) (e_makeSlice ht htd he hk (Nat.le_of_ble_eq_true hk0) hx hy rfl hf hcl hzl (Int.le_refl 0) hm.1.1 hm.1.2 hm.2 hb hdo).e rfl hnext
theorem n_mnz {P : Program} {ρ : Type} {kk : Nat → Option ρ} {r : ρ} {k : FuncId} {fn : Func} {ps : Array TypeId} {cl : Call} {n : Int} {t e : TypeId} {ti ei : TI} (hf : P.funcs[k]? = some fn) (h : (mnz n).bind kk = some r) (hnx : ∀ v, mnz n = some v → kk v = some r → RunM c ops hot Q lq ⟨(d, .sl (nm (some d)) 0 v) :: T, (nm (some d), .row e 1 0 []) :: H, M⟩)
    (hP : c.P = P := by exact rfl) (hname : (fn.name == "runtime.NumGoroutine") = false := by kernel_rfl) (hb : fn.body.isNone = true := by kernel_rfl) (hn : Extern.findNext fn = none := by kernel_rfl) (hE : Extern.find fn = some (Extern.BytealgMakeNoZero.makeNoZero ps #[t]) := by exact rfl)
    (ht : tget c.U t = some ti := by exact rfl) (htd : ti.desc = .slice e := by exact rfl) (he : tget c.U e = some ei := by exact rfl) (hk1 : ei.size = 1 := by exact rfl) (hk : calleeOf T cl.callee = some (k, [], []) := by exact rfl) (ha : opvL T cl.args.toList = some [.pl (.int .i64 n)] := by exact rfl) (hbo : hget H (nm (some d)) = none := by exact rfl) (hdo : dstOk c.N (some d) = true := by exact rfl) :
    RunN c ops hot Q i0 true ⟨some d, .call cl, ty, pos, af, none⟩ lq ⟨T, H, M⟩ := by
  subst hP
  obtain ⟨v, hv, h⟩ := bind_some h
  have h2 := hnx v hv h
  obtain ⟨hne, rfl⟩ := mnz_some hv
  exact RunN_eb (s := ⟨T, H, M⟩) (e_mnz hf hname hb hn hE ht htd he hk1 hne.1 hne.2 hk ha hbo hdo) rfl h2
theorem l_copy0 {t t2 e : TypeId} {x y : Operand} {b o : Nat} {ti ei : TI} (hnext : RunL c ops Q rest ⟨(d, I 0) :: T, H, M⟩) (ht : tget c.U t = some ti := by exact rfl) (htd : ti.desc = .slice e := by exact rfl) (he : tget c.U e = some ei := by exact rfl) (hx : opv T x = some (.sl b o 0) := by exact rfl) (hy : opv T y = some (.pl (.slice none 0 0)) := by exact rfl) (hdo : dstOk c.N (some d) = true := by exact rfl) :
    RunL c ops Q (⟨some d, .call { callee := .builtin .copy, args := #[x, y], argTypes := #[t, t2] }, ty, pos, af, none⟩ :: rest) ⟨T, H, M⟩ := RunL_q (s := ⟨T, H, M⟩) (q_copy0 ht htd he hx hy) rfl hdo hnext
end
end Go.Abs
