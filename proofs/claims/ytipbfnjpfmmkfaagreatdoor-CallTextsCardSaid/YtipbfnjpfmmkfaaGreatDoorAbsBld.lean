/-
  WHAT strings.Builder DOES: a pointer that may be nil in a cell, a pointer turned to unsafe.Pointer and back, the head of a row of bytes as a text. Generic over the program. Conditions: none.
-/
import Derived.Test.YtipbfnjpfmmkfaaGreatDoorAbsConv
import Derived.Test.YtipbfnjpfmmkfaaGreatDoorAbsPureC
import Derived.Lib.Builder
import Derived.Lib.UnsafeStr
import Derived.Laws.Externs
set_option linter.unusedVariables false
set_option linter.unusedSimpArgs false
set_option linter.unusedSectionVars false
namespace Go.Abs
open Go Go.RowKit Go.Proofs W
variable [GTab]
section
variable {c : Ctx} {s : St} {d : Option Tmp} {ty : TypeId} {pos : String} {af : Array Edge} {g : Option (Nat × Bool)}
theorem shape_of {w : World} {blk : Nat} {te : TypeId} {cv : Array Value} {fr : Nat × Nat} (h : CellsAt w blk te cv fr) : w.shape? blk = some (te, cv.size) := by
  unfold CellsAt at h
  unfold World.shape?
  rw [h]
theorem q_tounsafe {src dst u : TypeId} {x : Operand} {b o : Nat} {cs : List AV} {tb : TypeId} {ts td tu : TI} (h1 : tget c.U src = some ts) (hd1 : ts.desc = .pointer u) (h2 : tget c.U dst = some td) (hd2 : td.desc = .unsafePointer) (h3 : tget c.U u = some tu) (hsz : Nat.blt 0 tu.size = true)
    (hx : opv s.T x = some (.ptr b o)) (hb : hget s.H b = some (.box tb cs)) (ho : Nat.blt o cs.length = true) : QOp c ⟨d, .convert src dst x, ty, pos, af, g⟩ s (.ptr b o) := by
  intro a w β hs
  have hu1 : c.P.underlying src = some (.pointer u) := (ty_under h1).trans (congrArg some hd1)
  have hu2 : c.P.underlying dst = some .unsafePointer := (ty_under h2).trans (congrArg some hd2)
  obtain ⟨i, hi, hi1, _⟩ := ty_info h3
  obtain ⟨p, hp, hn, hv⟩ := (hs.op hx).ptr_inv
  obtain ⟨p', hp', hr⟩ := hs.heap.obj b _ hb
  rw [hp] at hp'; cases hp'
  obtain ⟨_, cv, fr, hcv, ⟨hst, hlen⟩, _⟩ := hr
  have ho := Nat.le_of_ble_eq_true ho
  have hsz := Nat.le_of_ble_eq_true hsz
  refine ⟨_, hs.op hx, fun w' hb' => ?_⟩
  have hcv' : CellsAt w' p.blk tb cv fr := (hb'.block p.blk (hs.heap.blk_lt hp hn)).trans hcv
  have hrun := Lib.run_to_unsafe (P := c.P) w' (src := src) (dst := dst) ⟨p.blk, p.st + o, none⟩ hu1 hu2 hi (by omega) (shape_of hcv') (by show p.st + o < cv.size; omega)
  rw [hv]
  simp [execOp, hv, hrun]
theorem q_fromunsafe {src dst u : TypeId} {x : Operand} {b o : Nat} {cs : List AV} {tb : TypeId} {ts td tu : TI} (h1 : tget c.U src = some ts) (hd1 : ts.desc = .unsafePointer) (h2 : tget c.U dst = some td) (hd2 : td.desc = .pointer u) (h3 : tget c.U u = some tu)
    (hx : opv s.T x = some (.ptr b o)) (hb : hget s.H b = some (.box tb cs)) (hlies : liesAt c.P c.P.depth tb (cs.length / c.P.cellsOf tb) o u 1 = true) : QOp c ⟨d, .convert src dst x, ty, pos, af, g⟩ s (.ptr b o) := by
  intro a w β hs
  have hu1 : c.P.underlying src = some .unsafePointer := (ty_under h1).trans (congrArg some hd1)
  have hu2 : c.P.underlying dst = some (.pointer u) := (ty_under h2).trans (congrArg some hd2)
  obtain ⟨i, hi, hi1, _⟩ := ty_info h3
  obtain ⟨p, hp, hn, hv⟩ := (hs.op hx).ptr_inv
  obtain ⟨p', hp', hr⟩ := hs.heap.obj b _ hb
  rw [hp] at hp'; cases hp'
  obtain ⟨_, cv, fr, hcv, ⟨hst, hlen⟩, _⟩ := hr
  refine ⟨_, hs.op hx, fun w' hb' => ?_⟩
  have hcv' : CellsAt w' p.blk tb cv fr := (hb'.block p.blk (hs.heap.blk_lt hp hn)).trans hcv
  have hrun := Lib.run_from_unsafe (P := c.P) w' (src := src) (dst := dst) ⟨p.blk, p.st + o, none⟩ hu1 hu2 hi (shape_of hcv') (by rw [hst, Nat.zero_add, ← hlen]; exact hlies)
  rw [hv]
  simp [execOp, hv, hrun]
/-- A pointer against itself. -/
theorem q_neqself {t t' u : TypeId} {x y : Operand} {b o : Nat} {ti tu : TI} (ht : tget c.U t = some ti) (htd : ti.desc = .pointer u) (hu : tget c.U u = some tu) (hx : opv s.T x = some (.ptr b o)) (hy : opv s.T y = some (.ptr b o)) :
    QOp c ⟨d, .binOp .neq t x y t', ty, pos, af, g⟩ s (.pl (.bool false)) := by
  intro a w β hs
  have hu1 : c.P.underlying t = some (.pointer u) := (ty_under ht).trans (congrArg some htd)
  obtain ⟨i, hi, _⟩ := ty_info hu
  obtain ⟨p, hp, hn, hv⟩ := (hs.op hx).ptr_inv
  obtain ⟨p', hp', _, hv'⟩ := (hs.op hy).ptr_inv
  rw [hp] at hp'; cases hp'
  refine ⟨_, .c (.pl _), fun w' _ => ?_⟩
  simp [execOp, eqGuard, hv, hv', Lib.run_neq_ptr_same (P := c.P) w' ⟨p.blk, p.st + o, none⟩ hu1 hi]
/-- internal/abi.NoEscape hands its argument back. -/
theorem noEscape_spec {P : Program} {k : FuncId} {fn : Func} (hf : P.funcs[k]? = some fn) (x : AV) (hname : (fn.name == "runtime.NumGoroutine") = false := by kernel_rfl) (hb : fn.body.isNone = true := by kernel_rfl) (hn : Extern.findNext fn = none := by kernel_rfl)
    (hE : Extern.find fn = some Extern.AbiNoEscape.same := by kernel_rfl) : NSpec P k [x] x := by
  intro F β w vs hA
  obtain ⟨hl, h⟩ := hA
  match vs, hl, h with
  | [v], _, h =>
    refine ⟨v, h 0 _ _ rfl rfl, fun w' => ?_⟩
    rw [run_callFunc_extern hf hname hb hn hE, Lib.run_noEscape (P := P) w' v]
    simp [Result.andThen]
end
/-! ### The head of a row of bytes, as a text -/
theorem liesAt_bytes' {P : Program} {e : TypeId} (hc : P.cellsOf e = 1) (count off n : Nat) (hn : off + n ≤ count) : liesAt P P.depth e count off e n = true := by
  have hd : P.depth = (2 * (P.types.size + Made.depth) + 1) + 1 := rfl
  rw [hd]
  simp only [liesAt, Bool.or_eq_true]
  left
  rw [hd]
  simp [rowAt, hc, hn, sameLayout, Nat.mod_one]
theorem run_ustr {P : Program} {w : World} (pt it ty e : TypeId) (hp : P.underlying pt = some (.pointer e)) (hc : P.cellsOf e = 1) (g o cells : Nat) (hsh : w.shape? g = some (e, cells)) (l : List UInt8) (h0 : l ≠ []) (hn : o + l.length ≤ cells) (h63 : l.length ≤ 9223372036854775807)
    (hcell : ∀ j x, l[j]? = some x → w.cell? ((⟨g, o, none⟩ : Addr).add j) = some (.int .u8 x.toNat)) :
    (Builtin.unsafeString_ #[pt, it] ty #[.pointer (some ⟨g, o, none⟩), .int .i64 l.length]).run P w = .ok (.string ⟨l.toArray⟩) (w.freeze ⟨g, o, none⟩ l.length) := by
  have hl : l.length ≠ 0 := by simpa using h0
  have hlb := Lib.run_loadBytes (P := P) w l ⟨g, o, none⟩ .empty hcell
  have hlies := liesAt_bytes' (P := P) hc (cells / P.cellsOf e) o l.length (by rw [hc]; simpa using hn)
  have h63' : ¬ (9223372036854775807 : Int) < (l.length : Int) := by omega
  have hdef : Builtin.unsafeString_ #[pt, it] ty #[.pointer (some ⟨g, o, none⟩), .int .i64 l.length] =
      (do
        let n ← asInt (.int .i64 l.length)
        if n < 0 then runtimePanic (.error "unsafe.String: len out of range")
        if n > IntKind.i64.max then unsupported (.unsafePointer "String: a length above the largest int")
        if n = 0 then pure (.string .empty)
        else if ← variablesAt ⟨g, o, none⟩ (← elemOf pt) n.toNat then do
          let s ← loadBytes ⟨g, o, none⟩ .empty n.toNat
          freeze ⟨g, o, none⟩ n.toNat
          pure (.string s)
        else unsupported (.unsafePointer "String: not so many bytes at ptr")) := rfl
  rw [hdef]
  have hmax : IntKind.i64.max = 9223372036854775807 := rfl
  have hneg : ¬ (l.length : Int) < 0 := by omega
  simp [asInt, asIntOf, hmax, h63', hneg, hl, variablesAt, hsh, elemOf, run_underlying hp, hlies, hlb]
theorem But.freeze (w : World) (a : Addr) (n : Nat) : But w (w.freeze a n) (· = a.block) := by
  unfold World.freeze
  split
  · exact ⟨rfl, ⟨rfl, Nat.le_refl _⟩, rfl, Nat.le_refl _, fun _ _ _ => rfl⟩
  · exact ⟨rfl, ⟨rfl, Nat.le_refl _⟩, rfl, by simp, fun k hk hne => by
      simp only [Array.getElem?_modify]
      rw [if_neg (Ne.symm hne)]⟩
mutual
theorem AV.kill_kill (b : Nat) : ∀ x : AV, (x.kill b).kill b = x.kill b
  | .agg cs => by simp only [AV.kill, AV.killL_killL b cs]
  | .tup cs => by simp only [AV.kill, AV.killL_killL b cs]
  | .fn f cs ds => by simp only [AV.kill, AV.killL_killL b cs, AV.killL_killL b ds]
  | .ifc t x => by simp only [AV.kill, AV.kill_kill b x]
  | .nptr z b' o => by
    by_cases e : Nat.beq b' b = true
    · simp only [AV.kill, e]
    · simp only [Bool.not_eq_true] at e; simp only [AV.kill, e]
  | .sl b' o n => by
    by_cases e : Nat.beq b' b = true
    · simp only [AV.kill, e]
    · simp only [Bool.not_eq_true] at e; simp only [AV.kill, e]
  | .mp b' => by
    by_cases e : Nat.beq b' b = true
    · simp only [AV.kill, e]
    · simp only [Bool.not_eq_true] at e; simp only [AV.kill, e]
  | .it b' => by
    by_cases e : Nat.beq b' b = true
    · simp only [AV.kill, e]
    · simp only [Bool.not_eq_true] at e; simp only [AV.kill, e]
  | .pl _ => rfl
  | .optr _ _ => rfl
  | .vs _ _ => rfl
  | .vm _ _ => rfl
  | .anyp => rfl
  | .junk => rfl
  | .gone => rfl
theorem AV.killL_killL (b : Nat) : ∀ l : List AV, AV.killL b (AV.killL b l) = AV.killL b l
  | [] => rfl
  | x :: r => by simp only [AV.killL, AV.kill_kill b x, AV.killL_killL b r]
end
theorem killT_killT (b : Nat) : ∀ T, killT b (killT b T) = killT b T
  | [] => rfl
  | (i, x) :: r => by simp only [killT, AV.kill_kill, killT_killT b r]
theorem killH_killH (b : Nat) : ∀ H, killH b (killH b H) = killH b H
  | [] => rfl
  | (i, o) :: r => by
    simp only [killH]
    split
    · exact killH_killH b r
    · rename_i h
      simp only [killH, h, killH_killH b r]
      congr 2
      cases o <;> simp [AObj.kill, AV.killL_killL]
/-- An object whose block turns, and that is let go. -/
theorem SatB.burn {c : Ctx} {s : St} {β : Emb} {a : Act} {w w' : World} (hs : SatB c s β a w) {b : Nat} {p : Place} (hp : β b = some p) (hbut : But w w' (fun k => p.nil = false ∧ k = p.blk)) : Sat c ⟨killT b s.T, killH b s.H, b :: s.M⟩ a w' := by
  have h1 := hs.replace (p' := ⟨0, 0, 0, 0, true⟩) hp (fun h => by cases h) hbut (o := .row 0 0 0 []) ⟨rfl, fun _ => rfl, fun h => by cases h⟩
  have h2 := Sat.drop ⟨_, h1⟩ b
  have e : killH b ((b, .row 0 0 0 []) :: killH b s.H) = killH b s.H := by
    rw [killH]
    have : Nat.beq b b = true := Nat.beq_refl b
    rw [this]
    exact killH_killH b s.H
  rw [killT_killT, e] at h2
  obtain ⟨β2, h2⟩ := h2
  exact ⟨β2, h2.defers, h2.size, h2.heap, h2.slot, h2.keeps, fun i q hq hm => h2.stay i q hq (by rw [mem_cons, Bool.or_eq_false_iff, decide_eq_false_iff_not] at hm; rw [mem_cons, mem_cons]; simp [hm.1, hm.2])⟩
/-- Where the first byte of a row lies: nothing is known if there is none. -/
def AV.usd (b : Nat) : Nat → AV
  | 0 => .anyp
  | _ + 1 => .ptr b 0
section
variable {c : Ctx} {s : St} {d : Option Tmp} {ty : TypeId} {pos : String} {af : Array Edge} {g : Option (Nat × Bool)}
theorem e_usd {x : Operand} {b n k fz : Nat} {te e : TypeId} {cs : List AV} {ti : TI} {argTs : Array TypeId} (ht : tget c.U ty = some ti) (htd : ti.desc = .pointer e)
    (hx : opv s.T x = some (.sl b 0 n)) (hb : hget s.H b = some (.row te k fz cs)) (hd : dstOk c.N d = true) :
    EOpB c ⟨d, .call { callee := .builtin .unsafeSliceData, args := #[x], argTypes := argTs }, ty, pos, af, g⟩ s ⟨putT s.T d (.usd b n), s.H, s.M⟩ := by
  intro a w β hs
  have hu : c.P.underlying ty = some (.pointer e) := (ty_under ht).trans (congrArg some htd)
  obtain ⟨p, hp, hcase⟩ := (hs.op hx).sl_inv2
  obtain ⟨p', hp', hro⟩ := hs.heap.obj b _ hb
  rw [hp] at hp'; cases hp'
  obtain ⟨_, _, hro⟩ := hro
  have hrun : ∀ (v : Value) (w1 : World), (Builtin.unsafeSliceData_ argTs ty #[a.eval x]).run c.P w = .ok v w1 →
      (execOp a.eval ⟨d, .call { callee := .builtin .unsafeSliceData, args := #[x], argTypes := argTs }, ty, pos, af, g⟩).run c.P w = .ok (.value v) w1 := by
    intro v w1 h
    simp [execOp, resolve, invoke, builtin, h]
  rcases hcase with ⟨hn, cap, hv, hcap, _⟩ | ⟨rfl, A, hv, hA⟩
  · rw [Nat.add_zero] at hv
    by_cases hc0 : cap = 0
    · have hn0 : n = 0 := by omega
      subst hn0 hc0
      obtain ⟨cv, fr, hcv, _⟩ := hro hn
      have hr := Lib.run_unsafeSliceData_zero (P := c.P) w argTs ty e hu ⟨p.blk, p.st, none⟩ 0 (te, cv.size) (shape_of hcv)
      refine ⟨_, β, below_alloc _ _, _, hrun _ _ (by rw [hv]; exact hr), (hs.later ⟨below_alloc _ _, Nat.le_refl _⟩).put hd .anyp⟩
    · refine ⟨w, β, RowKit.Below.refl _ _, _, hrun _ _ (by rw [hv]; exact Lib.run_unsafeSliceData_row (P := c.P) w argTs ty _ n cap hc0), hs.put hd ?_⟩
      cases n with
      | zero => exact .anyp
      | succ m => exact .ptr hp hn
  · cases A with
    | none => exact ⟨w, β, RowKit.Below.refl _ _, _, hrun _ _ (by rw [hv]; exact Lib.run_unsafeSliceData_nil (P := c.P) w argTs ty 0 0), hs.put hd .anyp⟩
    | some ad =>
      obtain ⟨hn, hblk⟩ := hA ad rfl
      obtain ⟨cv, fr, hcv, _⟩ := hro hn
      have hr := Lib.run_unsafeSliceData_zero (P := c.P) w argTs ty e hu ad 0 (te, cv.size) (by rw [hblk]; exact shape_of hcv)
      exact ⟨_, β, below_alloc _ _, _, hrun _ _ (by rw [hv]; exact hr), (hs.later ⟨below_alloc _ _, Nat.le_refl _⟩).put hd .anyp⟩
end
section
variable {c : Ctx} {Q : Exit → Act → World → Prop} {T : List (Nat × AV)} {H : List (Nat × AObj)} {M : List Nat} {ops : Array Oper} {rest : List Oper} {d : Tmp} {ty : TypeId} {pos : String} {af : Array Edge}
theorem F_mapU (l : Str) : F cU l = l.map U := by
  induction l with
  | nil => rfl
  | cons a v ih => rw [List.map_cons, ← ih]; rfl
theorem e_ustr {x y : Operand} {b fz : Nat} {e pt it : TypeId} {l : Str} {ti ei : TI} (ht : tget c.U pt = some ti) (htd : ti.desc = .pointer e) (he : tget c.U e = some ei) (hek : ei.size = 1)
    (hx : opv T x = some (.usd b l.length)) (hy : opv T y = some (.pl (.int .i64 l.length))) (hb : hget H b = some (.row e 1 fz (F cU l))) (hd : dstOk c.N (some d) = true) (h63 : l.length ≤ 9223372036854775807) :
    EOp c ⟨some d, .call { callee := .builtin .unsafeString, args := #[x, y], argTypes := #[pt, it] }, ty, pos, af, none⟩ ⟨T, H, M⟩ ⟨putT (killT b T) (some d) (S l), killH b H, b :: M⟩ := by
  intro a w β hs
  have hu : c.P.underlying pt = some (.pointer e) := (ty_under ht).trans (congrArg some htd)
  have hc1 : c.P.cellsOf e = 1 := by
    obtain ⟨i, hi, hi1, _⟩ := ty_info he
    simp [Program.cellsOf, hi, hi1, hek]
  obtain ⟨p, hp, hro⟩ := hs.heap.obj b _ hb
  obtain ⟨hpk, hnil, hro⟩ := hro
  have hv2 : a.eval y = .int .i64 (l.length : Int) := hs.pl hy
  have hrun : ∀ (v : Value) (w1 : World), (Builtin.unsafeString_ #[pt, it] ty #[a.eval x, a.eval y]).run c.P w = .ok v w1 →
      (execOp a.eval ⟨some d, .call { callee := .builtin .unsafeString, args := #[x, y], argTypes := #[pt, it] }, ty, pos, af, none⟩).run c.P w = .ok (.value v) w1 := by
    intro v w1 h
    simp [execOp, resolve, invoke, builtin, h]
  have hput : ∀ {w1 : World}, Sat c ⟨killT b T, killH b H, b :: M⟩ a w1 → ∃ β', SatB c ⟨putT (killT b T) (some d) (S l), killH b H, b :: M⟩ β' (a.put (some d) (.string ⟨l.toArray⟩)) w1 := fun ⟨β', h⟩ => ⟨β', h.put hd (.c (.pl _))⟩
  cases l with
  | nil =>
    have hxv := hs.op hx
    obtain ⟨q, hq⟩ : ∃ q, a.eval x = .pointer q := by
      generalize a.eval x = v at hxv
      have hxv : VRel c.F β w .anyp v := hxv
      cases hxv with
      | c h => cases h
      | anyp => exact ⟨_, rfl⟩
    obtain ⟨β', hs'⟩ := hput (hs.burn (w' := w) hp ⟨rfl, ⟨rfl, Nat.le_refl _⟩, rfl, Nat.le_refl _, fun _ _ _ => rfl⟩)
    exact ⟨w, β', .inl ⟨_, hrun _ _ (by rw [hq, hv2]; exact Lib.run_unsafeString_none (P := c.P) w pt it ty q), hs'⟩⟩
  | cons x0 l0 =>
    obtain ⟨p', hp', hn, hv⟩ := VRel.ptr_inv (b := b) (o := 0) (hs.op hx)
    rw [hp] at hp'; cases hp'
    obtain ⟨cv, fr, hcv, hlim, hlen, hcell, _⟩ := hro hn
    have hFl : (F cU (x0 :: l0)).length = (x0 :: l0).length := by rw [F_mapU, List.length_map]
    have hr := run_ustr (P := c.P) (w := w) pt it ty e hu hc1 p.blk (p.st + 0) cv.size (shape_of hcv) (x0 :: l0) (by simp) (by rw [Nat.add_zero, ← hFl]; exact hlen) h63 (fun j u hj => by
      obtain ⟨v, hv, hr, _⟩ := hcell j (U u) (by rw [F_mapU, List.getElem?_map, hj]; rfl)
      cases hr
      rw [show (⟨p.blk, p.st + 0, none⟩ : Addr).add j = ⟨p.blk, p.st + j, none⟩ by
        unfold Addr.add
        by_cases h0 : j = 0
        · subst h0; simp
        · simp [h0]]
      rw [cell_of_cells hcv]
      exact hv)
    obtain ⟨β', hs'⟩ := hput (hs.burn (w' := w.freeze ⟨p.blk, p.st + 0, none⟩ (x0 :: l0).length) hp (by
      have hb := But.freeze w ⟨p.blk, p.st + 0, none⟩ (x0 :: l0).length
      exact ⟨hb.os, hb.tape, hb.output, hb.size, fun k hk hne => hb.block k hk fun h => hne ⟨hn, h⟩⟩))
    exact ⟨_, β', .inl ⟨_, hrun _ _ (by rw [hv, hv2]; exact hr), hs'⟩⟩
end
section
variable {c : Ctx} {Q : Exit → Act → World → Prop} {T : List (Nat × AV)} {H : List (Nat × AObj)} {M : List Nat} {ops : Array Oper} {rest : List Oper} {d : Tmp} {ty : TypeId} {pos : String} {af : Array Edge} {hot : List Nat} {lq : Plan} {i0 : Nat}
theorem l_tounsafe {src dst u : TypeId} {x : Operand} {b o : Nat} {cs : List AV} {tb : TypeId} {ts td tu : TI} (hnext : RunL c ops Q rest ⟨(d, .ptr b o) :: T, H, M⟩) (h1 : tget c.U src = some ts := by exact rfl) (hd1 : ts.desc = .pointer u := by exact rfl) (h2 : tget c.U dst = some td := by exact rfl) (hd2 : td.desc = .unsafePointer := by exact rfl) (h3 : tget c.U u = some tu := by exact rfl) (hsz : Nat.blt 0 tu.size = true := by exact rfl)
    (hx : opv T x = some (.ptr b o) := by exact rfl) (hb : hget H b = some (.box tb cs) := by exact rfl) (ho : Nat.blt o cs.length = true := by exact rfl) (hdo : dstOk c.N (some d) = true := by exact rfl) : RunL c ops Q (⟨some d, .convert src dst x, ty, pos, af, none⟩ :: rest) ⟨T, H, M⟩ :=
  RunL_q (s := ⟨T, H, M⟩) (q_tounsafe h1 hd1 h2 hd2 h3 hsz hx hb ho) rfl hdo hnext
theorem l_fromunsafe {P : Program} {n : Nat} {src dst u : TypeId} {x : Operand} {b o : Nat} {cs : List AV} {tb : TypeId} {ts td tu : TI} (hnext : RunL c ops Q rest ⟨(d, .ptr b o) :: T, H, M⟩) (hP : c.P = P := by exact rfl) (h1 : tget c.U src = some ts := by exact rfl) (hd1 : ts.desc = .unsafePointer := by exact rfl) (h2 : tget c.U dst = some td := by exact rfl) (hd2 : td.desc = .pointer u := by exact rfl) (h3 : tget c.U u = some tu := by exact rfl)
    (hx : opv T x = some (.ptr b o) := by exact rfl) (hb : hget H b = some (.box tb cs) := by exact rfl) (hn : cs.length = n := by exact rfl) (hlies : liesAt P P.depth tb (n / P.cellsOf tb) o u 1 = true := by kernel_rfl) (hdo : dstOk c.N (some d) = true := by exact rfl) : RunL c ops Q (⟨some d, .convert src dst x, ty, pos, af, none⟩ :: rest) ⟨T, H, M⟩ := by
  subst hP hn
  exact RunL_q (s := ⟨T, H, M⟩) (q_fromunsafe h1 hd1 h2 hd2 h3 hx hb hlies) rfl hdo hnext
theorem l_neqself {t t' u : TypeId} {x y : Operand} {b o : Nat} {ti tu : TI} (hnext : RunL c ops Q rest ⟨(d, B false) :: T, H, M⟩) (ht : tget c.U t = some ti := by exact rfl) (htd : ti.desc = .pointer u := by exact rfl) (hu : tget c.U u = some tu := by exact rfl) (hx : opv T x = some (.ptr b o) := by exact rfl) (hy : opv T y = some (.ptr b o) := by exact rfl) (hdo : dstOk c.N (some d) = true := by exact rfl) : RunL c ops Q (⟨some d, (.binOp .neq t x y t'), ty, pos, af, none⟩ :: rest) ⟨T, H, M⟩ :=
  RunL_q (s := ⟨T, H, M⟩) (q_neqself ht htd hu hx hy) rfl hdo hnext
theorem n_usd {x : Operand} {b n k fz : Nat} {te e : TypeId} {cs : List AV} {ti : TI} {argTs : Array TypeId} (hnext : RunM c ops hot Q lq ⟨(d, .usd b n) :: T, H, M⟩) (ht : tget c.U ty = some ti := by exact rfl) (htd : ti.desc = .pointer e := by exact rfl) (hx : opv T x = some (.sl b 0 n) := by exact rfl) (hb : hget H b = some (.row te k fz cs) := by exact rfl) (hdo : dstOk c.N (some d) = true := by exact rfl) :
    RunN c ops hot Q i0 true ⟨some d, .call { callee := .builtin .unsafeSliceData, args := #[x], argTypes := argTs }, ty, pos, af, none⟩ lq ⟨T, H, M⟩ := RunN_eb (s := ⟨T, H, M⟩) (e_usd ht htd hx hb hdo) rfl hnext
theorem n_ustr {ρ : Type} {kk : Str → Option ρ} {r : ρ} {x y : Operand} {b fz : Nat} {e pt it : TypeId} {l : Str} {ti ei : TI} (h : (unsf l).bind kk = some r) (hn : ∀ v, unsf l = some v → kk v = some r → RunM c ops hot Q lq ⟨(d, S v) :: killT b T, killH b H, b :: M⟩) (hh : mem i0 hot = true := by exact rfl) (ht : tget c.U pt = some ti := by exact rfl) (htd : ti.desc = .pointer e := by exact rfl) (he : tget c.U e = some ei := by exact rfl) (hek : ei.size = 1 := by exact rfl)
    (hx : opv T x = some (.usd b l.length) := by exact rfl) (hy : opv T y = some (.pl (.int .i64 l.length)) := by exact rfl) (hb : hget H b = some (.row e 1 fz (F cU l)) := by exact rfl) (hdo : dstOk c.N (some d) = true := by exact rfl) : RunN c ops hot Q i0 true ⟨some d, .call { callee := .builtin .unsafeString, args := #[x, y], argTypes := #[pt, it] }, ty, pos, af, none⟩ lq ⟨T, H, M⟩ := by
  obtain ⟨v, hv, h⟩ := bind_some h
  have h2 := hn v hv h
  obtain ⟨h63, rfl⟩ := unsf_some hv
  exact RunN_e (s := ⟨T, H, M⟩) hh (e_ustr ht htd he hek hx hy hb hdo h63) rfl h2
/-- A nil pointer in a cell, seen as one that may be into an object. -/
theorem npcell_le {cs : List AV} {j b2 o : Nat} (hj : cs[j]? = some (.pl (.pointer none))) (i : Nat) (x y : AV) (hx : cs[i]? = some x) (hy : (cs.set j (.nptr true b2 o))[i]? = some y) : AV.Le x y := by
  rw [List.getElem?_set] at hy
  split at hy
  · rename_i e; subst e
    split at hy
    · cases hy
      rw [hj] at hx; cases hx
      intro F β w v h
      rw [h.pl_eq]
      exact .pnil
    · cases hy
  · rw [hx] at hy; cases hy
    exact fun _ _ _ _ h => h
theorem k_npcell {code : Code} {tb : TypeId} {b j : Nat} {cs : List AV} (b2 o : Nat) (h : Run c Q code ⟨T, hset H b (.box tb (cs.set j (.nptr true b2 o))), M⟩) (hb : hget H b = some (.box tb cs) := by exact rfl) (hj : cs[j]? = some (.pl (.pointer none)) := by exact rfl) : Run c Q code ⟨T, H, M⟩ := fun a w hs => h a w (hs.weakbox hb (by simp) (npcell_le hj))
theorem l_npcell  {tb : TypeId} {b j : Nat} {cs : List AV} (b2 o : Nat) (h : RunL c ops Q rest ⟨T, hset H b (.box tb (cs.set j (.nptr true b2 o))), M⟩) (hb : hget H b = some (.box tb cs) := by exact rfl) (hj : cs[j]? = some (.pl (.pointer none)) := by exact rfl) : RunL c ops Q rest ⟨T, H, M⟩ := fun a w hs => h a w (hs.weakbox hb (by simp) (npcell_le hj))
theorem f_npcell {x : Exit} {tb : TypeId} {b j : Nat} {cs : List AV} (b2 o : Nat) (h : Fin c Q x ⟨T, hset H b (.box tb (cs.set j (.nptr true b2 o))), M⟩) (hb : hget H b = some (.box tb cs) := by exact rfl) (hj : cs[j]? = some (.pl (.pointer none)) := by exact rfl) : Fin c Q x ⟨T, H, M⟩ := fun a w hs => h a w (hs.weakbox hb (by simp) (npcell_le hj))
theorem bif_t {α : Type} {a b : Option α} {r : α} (h : (bif true then a else b) = some r) : a = some r := h
theorem bif_f {α : Type} {a b : Option α} {r : α} (h : (bif false then a else b) = some r) : b = some r := h
end
end Go.Abs
