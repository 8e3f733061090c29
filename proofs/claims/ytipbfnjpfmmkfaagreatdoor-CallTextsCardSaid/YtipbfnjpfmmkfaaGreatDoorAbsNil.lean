/-
  A NIL SLICE SEEN AS AN EMPTY ONE, wherever it stands in a value; functions without a body; the walk over a text. Generic over the program. Conditions: none.
-/
import Derived.Test.YtipbfnjpfmmkfaaGreatDoorAbsXCall
import Derived.Test.YtipbfnjpfmmkfaaGreatDoorAbsPure
import Derived.Laws.Externs
import Derived.Lib.Bytealg
import Derived.Laws.IdiomStrings
set_option linter.unusedVariables false
set_option linter.unusedSectionVars false
namespace Go.Abs
open Go
variable [GTab]
mutual
def nilN : AV → AV
  | .pl (.slice none 0 0) => .vs 0 []
  | .pl (.pointer none) => .optr true []
  | .pl (.map none) => .vm [] []
  | .agg cs => .agg (nilNL cs)
  | .tup cs => .tup (nilNL cs)
  | .fn f cs ds => .fn f (nilNL cs) (nilNL ds)
  | x => x
def nilNL : List AV → List AV
  | [] => []
  | x :: r => nilN x :: nilNL r
end
theorem nilNL_length : ∀ l, (nilNL l).length = l.length
  | [] => rfl
  | x :: r => by simp [nilNL, nilNL_length r]
theorem nilNL_get : ∀ (l : List AV) (i : Nat) (y : AV), (nilNL l)[i]? = some y → ∃ x, l[i]? = some x ∧ y = nilN x
  | [], i, y, h => by simp [nilNL] at h
  | x :: r, 0, y, h => by simp [nilNL] at h; exact ⟨x, rfl, h.symm⟩
  | x :: r, i + 1, y, h => by
    simp only [nilNL, List.getElem?_cons_succ] at h
    simpa using nilNL_get r i y h
theorem nilN_pl (v : Value) : nilN (.pl v) = .pl v ∨ (v = .slice none 0 0 ∧ nilN (.pl v) = .vs 0 []) ∨ (v = .pointer none ∧ nilN (.pl v) = .optr true []) ∨ (v = .map none ∧ nilN (.pl v) = .vm [] []) := by
  unfold nilN
  split
  · rename_i h; cases h; exact .inr (.inl ⟨rfl, rfl⟩)
  · rename_i h; cases h; exact .inr (.inr (.inl ⟨rfl, rfl⟩))
  · rename_i h; cases h; exact .inr (.inr (.inr ⟨rfl, rfl⟩))
  all_goals (first | (rename_i h; cases h; done) | exact .inl rfl)
theorem CRel.nilN {O : Nat → Prop} {w : World} {x : AV} {v : Value} (h : CRel O w x v) : CRel O w (Abs.nilN x) v := by
  induction h with
  | pl v =>
    rcases nilN_pl v with e | ⟨rfl, e⟩ | ⟨rfl, e⟩ | ⟨rfl, e⟩
    · rw [e]; exact .pl v
    · rw [e]; exact .vs0
    · rw [e]; exact .vnil
    · rw [e]; exact .vm0
  | agg hl _ ih => exact .agg (by rw [nilNL_length]; exact hl) (fun i x v hx hv => by obtain ⟨y, hy, rfl⟩ := nilNL_get _ _ _ hx; exact ih i y v hy hv)
  | tup hl _ ih => exact .tup (by rw [nilNL_length]; exact hl) (fun i x v hx hv => by obtain ⟨y, hy, rfl⟩ := nilNL_get _ _ _ hx; exact ih i y v hy hv)
  | fn hl _ hl2 _ ih ih2 =>
    exact .fn (by rw [nilNL_length]; exact hl) (fun i x v hx hv => by obtain ⟨y, hy, rfl⟩ := nilNL_get _ _ _ hx; exact ih i y v hy hv)
      (by rw [nilNL_length]; exact hl2) (fun i x v hx hv => by obtain ⟨y, hy, rfl⟩ := nilNL_get _ _ _ hx; exact ih2 i y v hy hv)
  | ifc h _ => exact .ifc h
  | vptr f hc ho hb h _ => exact .vptr f hc ho hb h
  | vnil => exact .vnil
  | vs0 => exact .vs0
  | vs hn f hc ho hb h _ => exact .vs hn f hc ho hb h
  | vm0 => exact .vm0
  | vm ms ck hh ho hb hlk hlx hbn hd hk hx _ _ => exact .vm ms ck hh ho hb hlk hlx hbn hd hk hx
theorem VRel.nilN {F : Nat → Prop} {β : Emb} {w : World} {x : AV} {v : Value} (h : VRel F β w x v) : VRel F β w (Abs.nilN x) v := by
  induction h with
  | c h => exact .c h.nilN
  | agg hl _ ih => exact .agg (by rw [nilNL_length]; exact hl) (fun i x v hx hv => by obtain ⟨y, hy, rfl⟩ := nilNL_get _ _ _ hx; exact ih i y v hy hv)
  | tup hl _ ih => exact .tup (by rw [nilNL_length]; exact hl) (fun i x v hx hv => by obtain ⟨y, hy, rfl⟩ := nilNL_get _ _ _ hx; exact ih i y v hy hv)
  | fn hl _ hl2 _ ih ih2 =>
    exact .fn (by rw [nilNL_length]; exact hl) (fun i x v hx hv => by obtain ⟨y, hy, rfl⟩ := nilNL_get _ _ _ hx; exact ih i y v hy hv)
      (by rw [nilNL_length]; exact hl2) (fun i x v hx hv => by obtain ⟨y, hy, rfl⟩ := nilNL_get _ _ _ hx; exact ih2 i y v hy hv)
  | ifc h _ => exact .ifc h
  | ptr hp hn => exact .ptr hp hn
  | pnil => exact .pnil
  | sl hp hn hc hl => exact .sl hp hn hc hl
  | slz hp ha => exact .slz hp ha
  | mp hp hn => exact .mp hp hn
  | it hp hn => exact .it hp hn
  | anyp => exact .anyp
  | junk h => exact .junk h
  | gone => exact .gone
theorem nilN_le (x : AV) : AV.Le x (nilN x) := fun F β w v h => h.nilN
theorem LeA_nilN : ∀ l : List AV, LeA l (nilNL l)
  | [] => trivial
  | x :: r => ⟨nilN_le x, LeA_nilN r⟩
theorem XSpec.nilN {P : Program} {k : FuncId} {args args' : List AV} {H : List (Nat × AObj)} {r : AV} {H' : List (Nat × AObj)} {mv : List Nat} (h : XSpec P k args H r H' mv) (e : nilNL args' = args) : XSpec P k args' H r H' mv := by
  subst e; exact ASpec.le h (LeA_nilN _)

/-! ### Functions without a body -/
/-- What a call of such a function gives, in whatever later world: it only reckons. -/
def NSpec (P : Program) (k : FuncId) (args : List AV) (r : AV) : Prop :=
  ∀ F β w vs, Args F β w args vs → ∃ v, VRel F β w r v ∧ ∀ w', (callFunc k vs.toArray).run P w' = .ok (.value v) w'
theorem run_call_any {c : Ctx} {s : St} {β : Emb} {a : Act} {w : World} (hs : SatB c s β a w) {cl : Call} {k : FuncId} {first cap es : List AV} (hk : calleeOf s.T cl.callee = some (k, first, cap)) (ha : opvL s.T cl.args.toList = some es) (o : Oper) (ho : o.op = .call cl) :
    ∃ vs : List Value, Args c.F β w (first ++ es ++ cap) vs ∧ ∀ w' n w'', (callFunc k vs.toArray).run c.P w' = .ok n w'' → (execOp a.eval o).run c.P w' = .ok n w'' := by
  obtain ⟨callee, cargs, argT⟩ := cl
  cases callee with
  | value f =>
    simp only [calleeOf] at hk
    split at hk
    · rename_i k' fi ca hf
      cases hk
      obtain ⟨v1, v2, hv, h1, h2⟩ := (hs.op hf).fn_inv
      have hargs := opvL_get hs ha
      have hA : Args c.F β w (first ++ es ++ cap) (v1.toList ++ cargs.toList.map a.eval ++ v2.toList) := by
        refine Args.append (Args.append ⟨by simp [h1.1], fun i x v hx hv => ?_⟩ hargs) ⟨by simp [h2.1], fun i x v hx hv => ?_⟩
        · obtain ⟨u, hu, hr⟩ := h1.2 i x hx
          simp only [Array.getElem?_toList] at hv
          rw [hu] at hv; cases hv; exact hr
        · obtain ⟨u, hu, hr⟩ := h2.2 i x hx
          simp only [Array.getElem?_toList] at hv
          rw [hu] at hv; cases hv; exact hr
      refine ⟨_, hA, fun w' n w'' hrun => ?_⟩
      have hfull : v1 ++ Array.map a.eval cargs ++ v2 = (v1.toList ++ cargs.toList.map a.eval ++ v2.toList).toArray := by
        simp
      simp only [execOp, ho, resolve, hv, Deferred.ofValue, Sem.run_bind, Sem.run_pure, Result.andThen_ok, invoke, hfull, hrun]
    · cases hk
  | invoke _ _ => cases hk
  | builtin _ => cases hk
section
variable {c : Ctx} {s : St} {d : Option Tmp} {ty : TypeId} {pos : String} {af : Array Edge} {g : Option (Nat × Bool)}
theorem q_native {cl : Call} {k : FuncId} {first cap es : List AV} {r : AV} (hspec : NSpec c.P k (first ++ es ++ cap) r) (hk : calleeOf s.T cl.callee = some (k, first, cap)) (ha : opvL s.T cl.args.toList = some es) : QOp c ⟨d, .call cl, ty, pos, af, g⟩ s r := by
  intro a w β hs
  obtain ⟨vs, hA, hrun⟩ := run_call_any (o := ⟨d, .call cl, ty, pos, af, g⟩) hs hk ha rfl
  obtain ⟨v, hv, h⟩ := hspec _ _ _ _ hA
  exact ⟨v, hv, fun w' _ => hrun _ _ _ (h w')⟩
end
/-! ### The walk over a text -/
theorem But.setObj (w : World) (r : Nat) (o : Obj) : But w { w with heap := w.heap.setIfInBounds r o } (· = r) :=
  ⟨rfl, ⟨rfl, Nat.le_refl _⟩, rfl, by simp, fun k hk hne => by simp [Ne.symm hne]⟩
theorem dec_eq (l : List UInt8) (i : Nat) : Utf8.decode ⟨l.toArray⟩ i = W.dec l i := by
  have e1 : ∀ k, (ByteArray.mk l.toArray).get! k = l.getD k 0 := fun k => by
    show l.toArray[k]! = _
    simp [List.getD_eq_getElem?_getD]
    rfl
  have e2 : (ByteArray.mk l.toArray).size = l.length := rfl
  have e3 : ∀ n : Nat, Utf8.valid (n : Int) = W.validRune n := fun n => by
    unfold Utf8.valid W.validRune
    rw [Bool.eq_iff_iff]
    simp only [Bool.or_eq_true, Bool.and_eq_true, decide_eq_true_eq]
    omega
  have e4 : Utf8.runeError = 65533 := rfl
  simp only [Utf8.decode, W.dec, e1, e2, e3, e4]
section
variable {c : Ctx} {s : St} {d : Option Tmp} {ty : TypeId} {pos : String} {af : Array Edge} {g : Option (Nat × Bool)}
theorem run_getObj_at {P : Program} {w : World} {r : Nat} {sb : ByteArray} {p : Nat} (h : w.heap[r]? = some (.stringIter sb p)) : (getObj r).run P w = .ok (.stringIter sb p) w := by simp only [getObj, Sem.run, h]
theorem run_setObj_at {P : Program} {w : World} {r : Nat} {sb : ByteArray} {p : Nat} {o : Obj} (h : w.heap[r]? = some (.stringIter sb p)) : (setObj r o).run P w = .ok () { w with heap := w.heap.setIfInBounds r o } := by simp only [setObj, Sem.run, h]
theorem VRel.it_inv {F : Nat → Prop} {β : Emb} {w : World} {v : Value} {b : Nat} (h : VRel F β w (.it b) v) : ∃ p, β b = some p ∧ p.nil = false ∧ v = .pointer (some ⟨p.blk, 0, none⟩) := by
  cases h with
  | it hp hn => exact ⟨_, hp, hn, rfl⟩
  | c h => cases h
theorem e_range {t : TypeId} {x : Operand} {sb : ByteArray} {ti : TI} (ht : tget c.U t = some ti) (htd : ti.desc = .string) (hx : opv s.T x = some (.pl (.string sb))) (hb : hget s.H (nm d) = none) (hd : dstOk c.N d = true) :
    EOpB c ⟨d, .range t x, ty, pos, af, g⟩ s ⟨putT s.T d (.it (nm d)), (nm d, .siter sb 0) :: s.H, s.M⟩ := by
  intro a w β hs
  let p : Place := ⟨w.heap.size, 0, 0, 0, false⟩
  have hs' := hs.newobj (w' := w.alloc (.stringIter sb 0)) hb p (.inr trivial) (fun _ => ⟨Nat.le_refl _, by simp [p]⟩) (But.alloc _ _) (o := .siter sb 0) ⟨rfl, heap_alloc_at w _⟩
  have hu : c.P.underlying t = some .string := (ty_under ht).trans (congrArg some htd)
  refine ⟨_, _, below_alloc _ _, .pointer (some ⟨w.heap.size, 0, none⟩), ?_, hs'.put hd (.it (p := p) (by simp [upd]) rfl)⟩
  simp [execOp, hs.pl hx, Instr.range, run_underlying hu]
theorem e_next {x : Operand} {b pos' : Nat} {sb : ByteArray} (hx : opv s.T x = some (.it b)) (hb : hget s.H b = some (.siter sb pos')) (hlt : pos' < sb.size) (hd : dstOk c.N d = true) :
    EOp c ⟨d, .next x true, ty, pos, af, g⟩ s ⟨putT s.T d (.tup [.pl (.bool true), .pl (.int .i64 (pos' : Int)), .pl (.int .i32 ((Utf8.decode sb pos').1 : Int))]), hset s.H b (.siter sb (pos' + (Utf8.decode sb pos').2)), s.M⟩ := by
  intro a w β hs
  obtain ⟨p, hp, hn, hv⟩ := (hs.op hx).it_inv
  obtain ⟨p', hp', hr⟩ := hs.heap.obj b _ hb
  rw [hp] at hp'; cases hp'
  have hheap := hr.2
  have hlt' : p.blk < w.heap.size := (Array.getElem?_eq_some_iff.1 hheap).1
  have hs' := hs.setobj hp hn (But.setObj w p.blk (.stringIter sb (pos' + (Utf8.decode sb pos').2))) (o := .siter sb (pos' + (Utf8.decode sb pos').2)) ⟨hn, by simp [hlt']⟩
  refine ⟨_, β, .inl ⟨.tuple #[.bool true, .int .i64 (pos' : Int), .int .i32 ((Utf8.decode sb pos').1 : Int)], ?_, hs'.put hd (.c (.tup rfl fun i y u hy hu => ?_))⟩⟩
  · simp [execOp, hv, Instr.next, run_getObj_at hheap, run_setObj_at hheap, hlt, goInt, Result.andThen]
  · match i, hy, hu with
    | 0, hy, hu => simp at hy hu; subst hy hu; exact .pl _
    | 1, hy, hu => simp at hy hu; subst hy hu; exact .pl _
    | 2, hy, hu => simp at hy hu; subst hy hu; exact .pl _
    | i + 3, hy, hu => simp at hy
theorem e_next_end {x : Operand} {b pos' : Nat} {sb : ByteArray} (hx : opv s.T x = some (.it b)) (hb : hget s.H b = some (.siter sb pos')) (hlt : ¬ pos' < sb.size) (hd : dstOk c.N d = true) :
    EOp c ⟨d, .next x true, ty, pos, af, g⟩ s ⟨putT s.T d (.tup [.pl (.bool false)]), s.H, s.M⟩ := by
  intro a w β hs
  obtain ⟨p, hp, hn, hv⟩ := (hs.op hx).it_inv
  obtain ⟨p', hp', hr⟩ := hs.heap.obj b _ hb
  rw [hp] at hp'; cases hp'
  have hheap := hr.2
  refine ⟨w, β, .inl ⟨.tuple #[.bool false], ?_, hs.put hd (.c (.tup rfl fun i y u hy hu => ?_))⟩⟩
  · simp [execOp, hv, Instr.next, run_getObj_at hheap, hlt, Result.andThen]
  · match i, hy, hu with
    | 0, hy, hu => simp at hy hu; subst hy hu; exact .pl _
    | i + 1, hy, hu => simp at hy
theorem q_min2 {x y : Operand} {argTs : Array TypeId} {k : IntKind} {m n : Int} (hx : opv s.T x = some (.pl (.int k m))) (hy : opv s.T y = some (.pl (.int k n))) : QOp c ⟨d, .call { callee := .builtin .min, args := #[x, y], argTypes := argTs }, ty, pos, af, g⟩ s (.pl (.int k (W.mn m n))) :=
  q_builtin (xs := [x, y]) fun a w β hs => ⟨_, .c (.pl _), fun w' _ => by simp [builtin, Builtin.min_, Builtin.min2, hs.pl hx, hs.pl hy, W.mn]⟩
theorem q_max2 {x y : Operand} {argTs : Array TypeId} {k : IntKind} {m n : Int} (hx : opv s.T x = some (.pl (.int k m))) (hy : opv s.T y = some (.pl (.int k n))) : QOp c ⟨d, .call { callee := .builtin .max, args := #[x, y], argTypes := argTs }, ty, pos, af, g⟩ s (.pl (.int k (W.mx m n))) :=
  q_builtin (xs := [x, y]) fun a w β hs => ⟨_, .c (.pl _), fun w' _ => by simp [builtin, Builtin.max_, Builtin.max2, hs.pl hx, hs.pl hy, W.mx]⟩
theorem q_quo {t t' : TypeId} {x y : Operand} {k : IntKind} {m n : Int} (hx : opv s.T x = some (.pl (.int k m))) (hy : opv s.T y = some (.pl (.int k n))) (hn : (n == 0) = false) : QOp c ⟨d, .binOp .quo t x y t', ty, pos, af, g⟩ s (.pl (.int k (k.wrap (m.tdiv n)))) :=
  q_int hx hy fun w' => by simp at hn; simp [binOp, Op.intDiv, hn]
theorem q_rem {t t' : TypeId} {x y : Operand} {k : IntKind} {m n : Int} (hx : opv s.T x = some (.pl (.int k m))) (hy : opv s.T y = some (.pl (.int k n))) (hn : (n == 0) = false) : QOp c ⟨d, .binOp .rem t x y t', ty, pos, af, g⟩ s (.pl (.int k (m.tmod n))) :=
  q_int hx hy fun w' => by simp at hn; simp [binOp, Op.intDiv, hn]
theorem grownCap_ge (w : World) (n : Nat) (e : TypeId) : n ≤ grownCap w n 0 e := by
  unfold grownCap
  show n ≤ n + _
  omega
theorem e_strb {src dst e : TypeId} {x : Operand} {l : List UInt8} {t1 t2 ei : TI} (h1 : tget c.U src = some t1) (hd1 : t1.desc = .string) (h2 : tget c.U dst = some t2) (hd2 : t2.desc = .slice e) (he : tget c.U e = some ei) (hek : ei.desc = .int .u8) (hx : opv s.T x = some (.pl (.string ⟨l.toArray⟩)))
    (hb : hget s.H (nm d) = none) (hd : dstOk c.N d = true) : EOpB c ⟨d, .convert src dst x, ty, pos, af, g⟩ s ⟨putT s.T d (.sl (nm d) 0 l.length), (nm d, .row e 1 0 (encB l)) :: s.H, s.M⟩ := by
  intro a w β hs
  have hu1 : c.P.underlying src = some .string := (ty_under h1).trans (congrArg some hd1)
  have hu2 : c.P.underlying dst = some (.slice e) := (ty_under h2).trans (congrArg some hd2)
  have hu3 : c.P.underlying e = some (.int .u8) := (ty_under he).trans (congrArg some hek)
  have hrun := run_bytes_of_string (P := c.P) w src dst e ⟨l.toArray⟩ hu1 hu2 hu3
  have hge := grownCap_ge w (ByteArray.mk l.toArray).size e
  have hsz : (ByteArray.mk l.toArray).size = l.length := rfl
  generalize grownCap w (ByteArray.mk l.toArray).size 0 e = cap at hrun hge
  rw [hsz] at hge
  have hbl' : BelowD w w.drew := ⟨⟨rfl, rfl, rfl, Nat.le_refl _, fun _ _ => rfl⟩, Nat.le_succ _⟩
  have hbl : RowKit.Below w.heap.size w w.drew := hbl'.1
  have hs1 := hs.later hbl'
  have hcs : (bytesRow ⟨l.toArray⟩ cap).size = cap := by
    unfold bytesRow
    rw [Array.size_append, Array.size_map, Array.size_replicate, hsz]
    show l.length + _ = _
    omega
  let p : Place := ⟨w.heap.size, 0, cap, 1, false⟩
  have hro : ORel c.F (upd β (nm d) p) (w.drew.alloc (.cells (bytesRow ⟨l.toArray⟩ cap) e ((bytesRow ⟨l.toArray⟩ cap).size, (bytesRow ⟨l.toArray⟩ cap).size + 1))) p (.row e 1 0 (encB l)) := by
    refine ⟨rfl, (fun h => by cases h), fun _ => ⟨_, _, heap_alloc_at _ _, hcs.symm, by rw [encB_length, hcs]; show 0 + l.length ≤ cap; omega, fun i y hy => ?_, fun o ho h1 h2 => absurd ho (Nat.not_lt.2 h1)⟩⟩
    simp only [encB, List.getElem?_map, Option.map_eq_some_iff] at hy
    obtain ⟨b, hb', rfl⟩ := hy
    refine ⟨_, ?_, .pl _, rfl⟩
    have hi := (List.getElem?_eq_some_iff.1 hb').1
    unfold bytesRow
    rw [Array.getElem?_append_left (by simpa [p] using hi)]
    simp [p, hb']
  have hs2 := hs1.newobj (w' := w.drew.alloc _) hb p (.inl rfl) (fun _ => ⟨Nat.le_refl _, (by show w.heap.size < (w.drew.heap.push _).size; rw [Array.size_push]; exact Nat.lt_succ_self _)⟩) (But.alloc _ _) hro
  refine ⟨_, _, ?_, .slice (some ⟨w.heap.size, 0, none⟩) l.length cap, ?_, hs2.put hd (.sl (p := p) (upd_same _ _ _) rfl hge (by show 0 + 0 + cap * 1 ≤ cap; omega))⟩
  · exact hbl.trans (below_alloc w.drew _)
  · simp only [execOp, hs.pl hx, Sem.run_bind, hrun, Result.andThen_ok, Sem.run_pure]
    rfl
end
end Go.Abs
