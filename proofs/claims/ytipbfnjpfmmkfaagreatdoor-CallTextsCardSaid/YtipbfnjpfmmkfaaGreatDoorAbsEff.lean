/-
  THE OPERATIONS THAT MAKE OR WRITE MEMORY. Generic over the program. Conditions: none.
-/
import Derived.Test.YtipbfnjpfmmkfaaGreatDoorAbsMem
set_option linter.unusedVariables false
set_option linter.unusedSimpArgs false
set_option linter.unusedSectionVars false
namespace Go.Abs
open Go
variable [GTab]

/-! ### One cell, several cells -/
def one : AV → Bool
  | .pl v => v.oneCell'
  | .agg _ => false
  | .tup _ => false
  | .gone => false
  | _ => true
def allOne : List AV → Bool
  | [] => true
  | x :: r => one x && allOne r
def cellsA : AV → List AV
  | .agg cs => cs
  | x => [x]
/-- It is an aggregate of cells, or one cell. -/
def fit : AV → Bool
  | .agg cs => allOne cs
  | x => one x
theorem allOne_get : ∀ {l : List AV} (h : allOne l = true) {i : Nat} {x : AV}, l[i]? = some x → one x = true
  | [], _, i, x, hx => by simp at hx
  | y :: r, h, 0, x, hx => by simp [allOne] at h hx; subst hx; exact h.1
  | y :: r, h, i + 1, x, hx => by simp [allOne] at h hx; exact allOne_get h.2 hx
theorem one_spec {F : Nat → Prop} {β : Emb} {w : World} {x : AV} {v : Value} (h : VRel F β w x v) (h1 : one x = true) : v.oneCell' = true := by
  cases h with
  | c h => cases h with
    | pl v => exact h1
    | agg _ _ => cases h1
    | tup _ _ => cases h1
    | fn _ _ _ _ => rfl
    | ifc _ => rfl
    | vptr _ _ _ _ _ => rfl
    | vnil => rfl
    | vs0 => rfl
    | vs _ _ _ _ _ _ => rfl
    | vm0 => rfl
    | vm _ _ _ _ _ _ _ _ _ _ _ => rfl
  | agg _ _ => cases h1
  | tup _ _ => cases h1
  | fn _ _ _ _ => rfl
  | ifc _ => rfl
  | ptr _ _ => rfl
  | pnil => rfl
  | sl _ _ _ _ => rfl
  | slz _ _ => rfl
  | mp _ _ => rfl
  | it _ _ => rfl
  | anyp => rfl
  | junk h => exact h
  | gone => cases h1
theorem cells_of_one {v : Value} (h : v.oneCell' = true) : v.cells = #[v] := by cases v <;> first | rfl | cases h
theorem VRel.cells {F : Nat → Prop} {β : Emb} {w : World} {x : AV} {v : Value} (h : VRel F β w x v) (hf : fit x = true) :
    (cellsA x).length = v.cells.size ∧ ∀ (i : Nat) (y : AV), (cellsA x)[i]? = some y → ∃ u, v.cells[i]? = some u ∧ VRel F β w y u ∧ u.oneCell' = true := by
  by_cases hx : ∃ cs, x = .agg cs
  · obtain ⟨cs, rfl⟩ := hx
    obtain ⟨vs, rfl, hl, h2⟩ := h.agg_inv
    exact ⟨hl, fun i y hy => let ⟨u, hu, hr⟩ := h2 i y hy; ⟨u, hu, hr, one_spec hr (allOne_get hf hy)⟩⟩
  · have h1 : one x = true := by cases x <;> first | exact hf | exact (hx ⟨_, rfl⟩).elim
    have hv := one_spec h h1
    have hc : cellsA x = [x] := by cases x <;> first | rfl | exact (hx ⟨_, rfl⟩).elim
    rw [hc, cells_of_one hv]
    refine ⟨rfl, fun i y hy => ?_⟩
    cases i with
    | zero => simp at hy; subst hy; exact ⟨v, rfl, h, hv⟩
    | succ i => simp at hy

/-! ### A step with an effect -/
def EOp (c : Ctx) (o : Oper) (s s' : St) : Prop :=
  ∀ a w β, SatB c s β a w → ∃ w' β', (∃ v, (execOp a.eval o).run c.P w = .ok (.value v) w' ∧ SatB c s' β' (a.put o.dst v) w') ∨ ((execOp a.eval o).run c.P w = .ok .skip w' ∧ SatB c s' β' (a.put o.dst undef) w')
/-- The same, and what stood stays as it was. -/
def EOpB (c : Ctx) (o : Oper) (s s' : St) : Prop :=
  ∀ a w β, SatB c s β a w → ∃ w' β', RowKit.Below w.heap.size w w' ∧ ∃ v, (execOp a.eval o).run c.P w = .ok (.value v) w' ∧ SatB c s' β' (a.put o.dst v) w'
theorem EOpB.e {c : Ctx} {o : Oper} {s s' : St} (h : EOpB c o s s') : EOp c o s s' := fun a w β hs => let ⟨w', β', _, v, h1, h2⟩ := h a w β hs; ⟨w', β', .inl ⟨v, h1, h2⟩⟩
theorem below_alloc (w : World) (o : Obj) : RowKit.Below w.heap.size w (w.alloc o) := ⟨rfl, rfl, rfl, by simp, fun k' hk' => RowKit.Below.heap_alloc _ _ _ hk'⟩
section
variable {c : Ctx} {Q : Exit → Act → World → Prop} {s s' : St} {ops : Array Oper} {rest : List Oper} {o : Oper}
theorem RunL_e (h : EOp c o s s') (hg : o.guard = none) (hr : RunL c ops Q rest s') : RunL c ops Q (o :: rest) s := by
  rintro a w ⟨β, hs⟩
  obtain ⟨w', β', ⟨v, hrun, hs'⟩ | ⟨hrun, hs'⟩⟩ := h a w β hs
  · refine wpList_plain hg fun K hK => ?_
    unfold Oper.wp
    rw [hrun, Oper.upon_value]
    exact hK _ _ (hr _ _ ⟨β', hs'⟩)
  · refine wpList_plain hg fun K hK => ?_
    unfold Oper.wp
    rw [hrun, Oper.upon_skip]
    exact hK _ _ (hr _ _ ⟨β', hs'⟩)
end

theorem But.alloc (w : World) (o : Obj) : But w (w.alloc o) (fun _ => False) :=
  ⟨rfl, ⟨rfl, Nat.le_refl _⟩, rfl, by simp, fun k hk _ => RowKit.Below.heap_alloc _ _ _ hk⟩
theorem heap_alloc_at (w : World) (o : Obj) : (w.alloc o).heap[w.heap.size]? = some o := by
  show (w.heap.push o)[w.heap.size]? = some o
  simp

/-- The name of what an operation makes: by its temporary. -/
def nm : Option Tmp → Nat
  | some d => 1000 + d
  | none => 999

/-- A new box. -/
theorem SatB.newbox {c : Ctx} {s : St} {β : Emb} {a : Act} {w : World} (hs : SatB c s β a w) {b : Nat} (hb : hget s.H b = none) (cells : Array Value) (e : TypeId) {cs : List AV} (hl : cs.length = cells.size)
    (h : ∀ (i : Nat) (y : AV), cs[i]? = some y → ∃ u, cells[i]? = some u ∧ VRel c.F β w y u ∧ u.oneCell' = true) :
    ∃ β', SatB c ⟨s.T, (b, .box e cs) :: s.H, s.M⟩ β' a (w.alloc (.cells cells e)) ∧ VRel c.F β' (w.alloc (.cells cells e)) (.ptr b 0) (.pointer (some ⟨w.heap.size, 0, none⟩)) := by
  let p : Place := ⟨w.heap.size, 0, cells.size, 0, false⟩
  have hfr : β b = none := by
    cases h : β b with
    | none => rfl
    | some q => obtain ⟨ob, hob⟩ := hs.heap.dom b q h; rw [hb] at hob; cases hob
  have hβ : ∀ i q, β i = some q → upd β b p i = some q := fun i q hq => by
    have : b ≠ i := fun e => by subst e; rw [hfr] at hq; cases hq
    rw [upd_ne _ _ this]; exact hq
  have hO : ∀ k, off c.F (upd β b p) k → off c.F β k ∨ w.heap.size ≤ k := by
    rintro k (hk | ⟨i, q, hq, hqn, rfl⟩)
    · exact .inl (.inl hk)
    · rcases upd_some hq with ⟨rfl, rfl⟩ | ⟨_, hq⟩
      · exact .inr (Nat.le_refl _)
      · exact .inl (.inr ⟨i, q, hq, hqn, rfl⟩)
  refine ⟨upd β b p, hs.newobj hb p (.inl rfl) (fun _ => ⟨Nat.le_refl _, by simp [p]⟩) (But.alloc _ _) ?_, ?_⟩
  · refine ⟨rfl, cells, (0, 0), heap_alloc_at _ _, by simp [p, hl], fun i y hy => ?_, fun o _ _ h => by simp at h⟩
    obtain ⟨u, hu, hr, h1⟩ := h i y hy
    exact ⟨u, by simp [p, hu], hr.mono hβ (by simp) hO (fun k hk _ => RowKit.Below.heap_alloc _ _ _ hk), h1⟩
  · exact .ptr (p := p) (upd_same _ _ _) rfl

section
variable {c : Ctx} {s : St} {d : Option Tmp} {ty : TypeId} {pos : String} {af : Array Edge} {g : Option (Nat × Bool)}

theorem e_alloc {t : TypeId} {ti : TI} {cs : List AV} (ht : tget c.U t = some ti) (hcs : cellsA (ofVal ti.zero) = cs) (hf : fit (ofVal ti.zero) = true) (hb : hget s.H (nm d) = none) (hd : dstOk c.N d = true) :
    EOpB c ⟨d, .alloc t, ty, pos, af, g⟩ s ⟨putT s.T d (.ptr (nm d) 0), (nm d, .box t cs) :: s.H, s.M⟩ := by
  intro a w β hs
  have hz : VRel c.F β w (ofVal ti.zero) ti.zero := .c (CRel.ofVal _ _ _)
  obtain ⟨hl, h⟩ := hz.cells hf
  subst hcs
  obtain ⟨β', hs', hr⟩ := hs.newbox hb ti.zero.cells t hl h
  refine ⟨_, β', below_alloc _ _, _, ?_, hs'.put hd hr⟩
  simp [execOp, Instr.alloc, ty_zero ht, newVar, newRow]

theorem e_box {t : TypeId} {x : Operand} {ax : AV} {cs : List AV} (hx : opv s.T x = some ax) (hcs : cellsA ax = cs) (hf : fit ax = true) (hb : hget s.H (nm d) = none) (hd : dstOk c.N d = true) :
    EOpB c ⟨d, .box t x, ty, pos, af, g⟩ s ⟨putT s.T d (.ptr (nm d) 0), (nm d, .box t cs) :: s.H, s.M⟩ := by
  intro a w β hs
  obtain ⟨hl, h⟩ := (hs.op hx).cells hf
  subst hcs
  obtain ⟨β', hs', hr⟩ := hs.newbox hb (a.eval x).cells t hl h
  refine ⟨_, β', below_alloc _ _, _, ?_, hs'.put hd hr⟩
  simp [execOp, Instr.box, newVar, newRow]
end

/-! ### Stores -/
def wr : Array Value → Nat → List Value → Array Value
  | c, _, [] => c
  | c, o, v :: r => wr (c.setIfInBounds o v) (o + 1) r
theorem wr_size : ∀ (vs : List Value) (c : Array Value) (o : Nat), (wr c o vs).size = c.size
  | [], _, _ => rfl
  | v :: r, c, o => by rw [wr, wr_size r]; simp
theorem wr_get : ∀ (vs : List Value) (c : Array Value) (o i : Nat), o + vs.length ≤ c.size → (wr c o vs)[i]? = if o ≤ i ∧ i < o + vs.length then vs[i - o]? else c[i]?
  | [], c, o, i, h => by
    rw [wr, if_neg]
    simp only [List.length_nil]
    omega
  | v :: r, c, o, i, h => by
    simp only [List.length_cons] at h
    rw [wr, wr_get r _ _ _ (by simp; omega)]
    by_cases h1 : o = i
    · subst h1
      rw [if_neg (by omega), if_pos (by simp), Array.getElem?_setIfInBounds_self_of_lt (by omega)]
      simp
    · by_cases h2 : o + 1 ≤ i ∧ i < o + 1 + r.length
      · rw [if_pos h2, if_pos (by simp; omega), show i - o = (i - (o + 1)) + 1 by omega, List.getElem?_cons_succ]
      · rw [if_neg h2, if_neg (by simp; omega), Array.getElem?_setIfInBounds_ne h1]
theorem heap_setCells (b : Nat) : ∀ (vs : List Value) (o : Nat) (w : World) (c : Array Value) (t : TypeId) (fr : Nat × Nat), w.heap[b]? = some (.cells c t fr) → (w.setCells b o vs).heap[b]? = some (.cells (wr c o vs) t fr)
  | [], _, _, _, _, _, h => h
  | v :: r, o, w, c, t, fr, h => by
    rw [World.setCells, wr]
    refine heap_setCells b r (o + 1) _ _ t fr ?_
    simp only [World.setCell, Array.getElem?_modify, if_pos, h]
    simp
theorem But.setCells (b : Nat) : ∀ (vs : List Value) (o : Nat) (w : World), But w (w.setCells b o vs) (· = b)
  | [], _, w => ⟨rfl, ⟨rfl, Nat.le_refl _⟩, rfl, Nat.le_refl _, fun _ _ _ => rfl⟩
  | v :: r, o, w => by
    have h := But.setCells b r (o + 1) (w.setCell ⟨b, o, none⟩ v)
    rw [World.setCells]
    refine ⟨h.os, h.tape, h.output, by have := h.size; simpa using this, fun k hk hne => (h.block k (by simpa using hk) hne).trans (RowKit.Below.heap_setCell _ _ _ _ hne)⟩

/-- A list with some of its places written anew. -/
def updL (cs : List AV) (o : Nat) (es : List AV) : List AV := cs.take o ++ (es ++ cs.drop (o + es.length))
theorem updL_length {cs : List AV} {o : Nat} {es : List AV} (h : o + es.length ≤ cs.length) : (updL cs o es).length = cs.length := by
  simp [updL]; omega
theorem updL_get {cs : List AV} {o : Nat} {es : List AV} (h : o + es.length ≤ cs.length) (i : Nat) : (updL cs o es)[i]? = if o ≤ i ∧ i < o + es.length then es[i - o]? else cs[i]? := by
  unfold updL
  by_cases h1 : i < o
  · rw [List.getElem?_append_left (by simp; omega), if_neg (by omega), List.getElem?_take_of_lt h1]
  · rw [List.getElem?_append_right (by simp; omega)]
    simp only [List.length_take, Nat.min_eq_left (show o ≤ cs.length by omega)]
    by_cases h2 : i < o + es.length
    · rw [if_pos ⟨by omega, h2⟩, List.getElem?_append_left (by omega)]
    · rw [if_neg (by omega), List.getElem?_append_right (by omega), List.getElem?_drop]
      congr 1; omega

/-- Cells of an object are written: the world behind. -/
theorem run_storeVar {P : Program} {w : World} {blk o : Nat} {c : Array Value} {fr : Nat × Nat} {te : TypeId} (hc : CellsAt w blk te c fr) {t : TypeId} {n : Nat} (hn : (sizeOf t).run P w = .ok n w) {v : Value} (hv : v.cells.size = n)
    (h1 : ∀ u ∈ v.cells.toList, u.oneCell' = true) (hfit : o + n ≤ c.size) (hfr : ∀ i, o ≤ i → i < o + n → fr.1 ≤ i → ¬ i < fr.2) :
    (storeVar t ⟨blk, o, none⟩ v).run P w = .ok () (w.setCells blk o v.cells.toList) := by
  have ht : w.heap[blk]? = some (.cells c te fr) := hc
  have hlen : v.cells.toList.length = n := by simp [hv]
  have := run_storeCells_cells (P := P) blk o v.cells.toList 0 w (fun j hj => by
      rw [hlen] at hj
      simp [World.cell?, ht]
      omega) (fun j hj => by
      rw [hlen] at hj
      have := hfr (o + 0 + j) (by omega) (by omega)
      obtain ⟨lo, hi⟩ := fr
      simp only [World.frozen?, ht]
      simp only at this
      simp only [Nat.add_zero] at this
      simp only [Nat.add_zero, Bool.and_eq_false_iff, decide_eq_false_iff_not]
      by_cases q : lo ≤ o + j
      · exact .inr (this q)
      · exact .inl q) h1
  simp only [Nat.add_zero] at this
  unfold storeVar
  simp only [Sem.run_bind, hn, Result.andThen_ok, hv, ne_eq, not_true, if_false, this]

section
variable {c : Ctx} {s : St} {d : Option Tmp} {ty : TypeId} {pos : String} {af : Array Edge} {g : Option (Nat × Bool)}

theorem mem_toList_get {l : Array Value} {u : Value} (h : u ∈ l.toList) : ∃ i : Nat, l[i]? = some u := by
  obtain ⟨i, hi⟩ := List.mem_iff_getElem?.1 h
  exact ⟨i, by simpa using hi⟩

theorem e_store_box {tb : TypeId} {t : TypeId} {x y : Operand} {b o : Nat} {ay : AV} {cs es : List AV} {ti : TI} (ht : tget c.U t = some ti) (hx : opv s.T x = some (.ptr b o)) (hy : opv s.T y = some ay) (hes : cellsA ay = es) (hf : fit ay = true) (hl : es.length = ti.size)
    (hb : hget s.H b = some (.box tb cs)) (hin : Nat.ble (o + es.length) cs.length = true) (hd : d = none) : EOp c ⟨d, .store t x y, ty, pos, af, g⟩ s ⟨s.T, hset s.H b (.box tb (updL cs o es)), s.M⟩ := by
  intro a w β hs
  subst hd
  have hin := Nat.le_of_ble_eq_true hin
  obtain ⟨p, hp, hn, hv⟩ := (hs.op hx).ptr_inv
  obtain ⟨p', hp', hr⟩ := hs.heap.obj b _ hb
  rw [hp] at hp'; cases hp'
  obtain ⟨_, cv, fr, hcv, h5, h6, h7⟩ := hr
  obtain ⟨hl2, hcells⟩ := (hs.op hy).cells hf
  rw [hes] at hl2 hcells
  have h1 : ∀ u ∈ (a.eval y).cells.toList, u.oneCell' = true := fun u hu => by
    obtain ⟨i, hi⟩ := mem_toList_get hu
    have hi' : i < es.length := by rw [hl2]; exact (Array.getElem?_eq_some_iff.1 hi).1
    obtain ⟨u', hu', _, h1⟩ := hcells i es[i] (by simp [hi'])
    rw [hi] at hu'; cases hu'; exact h1
  have hrun := run_storeVar (P := c.P) hcv (ty_size ht w) (v := a.eval y) (o := p.st + o) (by rw [← hl2, hl]) h1 (by omega) (fun i h1 h2 h3 => h7 i (by omega) h3)
  have hbut := But.setCells p.blk (a.eval y).cells.toList (p.st + o) w
  have hc' : CellsAt (w.setCells p.blk (p.st + o) (a.eval y).cells.toList) p.blk tb (wr cv (p.st + o) (a.eval y).cells.toList) fr := by
    exact heap_setCells _ _ _ _ _ _ _ hcv
  have hw : ∀ k, k < w.heap.size → ¬ off c.F β k → (w.setCells p.blk (p.st + o) (a.eval y).cells.toList).heap[k]? = w.heap[k]? := fun k hk hno => hbut.block k hk (fun e => hno (.inr ⟨b, p, hp, hn, e.symm⟩))
  refine ⟨w.setCells p.blk (p.st + o) (a.eval y).cells.toList, β, .inr ⟨?_, ?_⟩⟩
  · simp [execOp, hv, Instr.storeAt, Instr.sureAddr, hrun]
  · refine hs.setobj hp hn hbut ⟨hn, _, fr, hc', by rw [updL_length hin, wr_size]; exact h5, fun i z hz => ?_, fun o' ho' => h7 o' (by rw [wr_size] at ho'; exact ho')⟩
    rw [updL_get hin] at hz
    rw [wr_get _ _ _ _ (by simp only [Array.length_toList]; omega)]
    simp only [Array.length_toList]
    by_cases hi : o ≤ i ∧ i < o + es.length
    · rw [if_pos hi] at hz
      obtain ⟨u, hu, hr, h1u⟩ := hcells _ z hz
      refine ⟨u, ?_, hr.mono (fun _ _ h => h) hbut.size (fun _ h => .inl h) hw, h1u⟩
      rw [if_pos (by omega), show p.st + i - (p.st + o) = i - o by omega]
      simpa using hu
    · rw [if_neg hi] at hz
      obtain ⟨u, hu, hr, h1u⟩ := h6 i z hz
      exact ⟨u, by rw [if_neg (by omega)]; exact hu, hr.mono (fun _ _ h => h) hbut.size (fun _ h => .inl h) hw, h1u⟩

theorem e_store_row {te : TypeId} {t : TypeId} {x y : Operand} {b o k fz : Nat} {ay : AV} {cs es : List AV} {ti : TI} (ht : tget c.U t = some ti) (hx : opv s.T x = some (.ptr b o)) (hy : opv s.T y = some ay) (hes : cellsA ay = es) (hf : fit ay = true) (hl : es.length = ti.size)
    (hcl : AV.closedL es = true) (hb : hget s.H b = some (.row te k fz cs)) (hfz : fz ≤ o) (hin : o + es.length ≤ cs.length) (hpos : 0 < ti.size) (hd : d = none) : EOp c ⟨d, .store t x y, ty, pos, af, g⟩ s ⟨s.T, hset s.H b (.row te k fz (updL cs o es)), s.M⟩ := by
  intro a w β hs
  subst hd
  obtain ⟨p, hp, hn, hv⟩ := (hs.op hx).ptr_inv
  obtain ⟨p', hp', hr⟩ := hs.heap.obj b _ hb
  rw [hp] at hp'; cases hp'
  obtain ⟨hk, hnil, hr⟩ := hr
  obtain ⟨cv, fr, hcv, hlim, h5, h6, h7⟩ := hr hn
  obtain ⟨hl2, hcells⟩ := (hs.op hy).cells hf
  rw [hes] at hl2 hcells
  have h1 : ∀ u ∈ (a.eval y).cells.toList, u.oneCell' = true := fun u hu => by
    obtain ⟨i, hi⟩ := mem_toList_get hu
    have hi' : i < es.length := by rw [hl2]; exact (Array.getElem?_eq_some_iff.1 hi).1
    obtain ⟨u', hu', _, h1⟩ := hcells i es[i] (by simp [hi'])
    rw [hi] at hu'; cases hu'; exact h1
  have hrun := run_storeVar (P := c.P) hcv (ty_size ht w) (v := a.eval y) (o := p.st + o) (by rw [← hl2, hl]) h1 (by omega) (fun i h1 h2 h3 h4 => by have := h7 i (by omega) h3 h4; omega)
  have hbut := But.setCells p.blk (a.eval y).cells.toList (p.st + o) w
  have hc' : CellsAt (w.setCells p.blk (p.st + o) (a.eval y).cells.toList) p.blk te (wr cv (p.st + o) (a.eval y).cells.toList) fr := by
    exact heap_setCells _ _ _ _ _ _ _ hcv
  have hw : ∀ k, k < w.heap.size → ¬ off c.F β k → (w.setCells p.blk (p.st + o) (a.eval y).cells.toList).heap[k]? = w.heap[k]? := fun k hk hno => hbut.block k hk (fun e => hno (.inr ⟨b, p, hp, hn, e.symm⟩))
  refine ⟨w.setCells p.blk (p.st + o) (a.eval y).cells.toList, β, .inr ⟨?_, ?_⟩⟩
  · simp [execOp, hv, Instr.storeAt, Instr.sureAddr, hrun]
  · refine hs.setobj hp hn hbut ⟨hk, fun h => (by rw [hn] at h; cases h), fun _ => ⟨_, fr, hc', by rw [wr_size]; exact hlim, by rw [updL_length hin, wr_size]; exact h5, fun i z hz => ?_, fun o' ho' => h7 o' (by rw [wr_size] at ho'; exact ho')⟩⟩
    rw [updL_get hin] at hz
    rw [wr_get _ _ _ _ (by simp only [Array.length_toList]; omega)]
    simp only [Array.length_toList]
    by_cases hi : o ≤ i ∧ i < o + es.length
    · rw [if_pos hi] at hz
      obtain ⟨u, hu, hr, h1u⟩ := hcells _ z hz
      refine ⟨u, ?_, (hr.closed (AV.closedL_get hcl hz)).mono hbut.size (fun _ h => .inl h) hw, h1u⟩
      rw [if_pos (by omega), show p.st + i - (p.st + o) = i - o by omega]
      simpa using hu
    · rw [if_neg hi] at hz
      obtain ⟨u, hu, hr, h1u⟩ := h6 i z hz
      exact ⟨u, by rw [if_neg (by omega)]; exact hu, hr.mono hbut.size (fun _ h => .inl h) hw, h1u⟩
end
end Go.Abs
