/-
  THE TRIPLES: what a piece of code does to abstract states; the rules of the code's forms. Generic over the program. Conditions: none.
-/
import Derived.Test.YtipbfnjpfmmkfaaGreatDoorAbsCore
import Derived.Deep.LoopGhost
set_option linter.unusedVariables false
set_option linter.unusedSimpArgs false
set_option linter.unusedSectionVars false
namespace Go.Abs
open Go
variable [GTab]

/-- What is known of a type. -/
structure TI where
  desc : TypeDesc
  size : Nat
  bytes : Nat
  zero : Value

def tget : List (Nat × TI) → Nat → Option TI
  | [], _ => none
  | (j, x) :: r, i => match Nat.beq j i with
    | true => some x
    | false => tget r i

/-- What a walk is given: the program, a table of its types, the blocks that the caller keeps, the world at the call. -/
structure Ctx where
  P : Program
  U : List (Nat × TI)
  hU : ∀ t i, tget U t = some i → P.underlying t = some i.desc ∧ ∃ info, P.info? t = some info ∧ info.size = i.size ∧ info.bytes = i.bytes ∧ info.zero = some i.zero
  F : Nat → Prop
  β0 : Emb
  w0 : World
  N : Nat

/-- Slots, owned objects, and the names of the caller's objects that may have been moved or let go. -/
structure St where
  T : List (Nat × AV)
  H : List (Nat × AObj)
  M : List Nat

def mem (b : Nat) : List Nat → Bool
  | [] => false
  | x :: r => match Nat.beq x b with
    | true => true
    | false => mem b r
theorem mem_cons (b x : Nat) (r : List Nat) : mem b (x :: r) = (decide (x = b) || mem b r) := by
  simp only [mem]
  split
  · rename_i h; simp [Nat.eq_of_beq_eq_true h]
  · rename_i h; simp [Nat.ne_of_beq_eq_false h]

structure SatB (c : Ctx) (s : St) (β : Emb) (a : Act) (w : World) : Prop where
  defers : a.defers = []
  size : a.tmps.size = c.N
  heap : HRel c.F β s.H w
  slot : ∀ i x, get s.T i = some x → ∃ v, a.tmps[i]? = some v ∧ VRel c.F β w x v
  keeps : Keeps c.β0 c.w0 β w
  stay : ∀ b p, c.β0 b = some p → mem b s.M = false → β b = some p

def Sat (c : Ctx) (s : St) (a : Act) (w : World) : Prop := ∃ β, SatB c s β a w

def Run (c : Ctx) (Q : Exit → Act → World → Prop) (code : Code) (s : St) : Prop := ∀ a w, Sat c s a w → code.wp c.P Q a w
def RunL (c : Ctx) (ops : Array Oper) (Q : Exit → Act → World → Prop) (rest : List Oper) (s : St) : Prop := ∀ a w, Sat c s a w → wpList c.P ops Q rest a w
def Fin (c : Ctx) (Q : Exit → Act → World → Prop) (e : Exit) (s : St) : Prop := ∀ a w, Sat c s a w → Q e a w

/-! ### The code's forms -/
section
variable {c : Ctx} {Q : Exit → Act → World → Prop} {s : St}

theorem Run_seq {x y : Code} (h : Run c (Exit.then (y.wp c.P Q) Q) x s) : Run c Q (.seq x y) s := fun a w hs => wp_seq (h a w hs)
theorem Run_skip (h : Fin c Q .normal s) : Run c Q .skip s := fun a w hs => wp_skip (h a w hs)
theorem Run_block {id : Nat} {x : Code} (h : Run c (Exit.inBlock id Q) x s) : Run c Q (.block id x) s := fun a w hs => wp_block (h a w hs)
theorem Run_exit {id : Nat} (h : Fin c Q (.exit id) s) : Run c Q (.exit id) s := fun a w hs => wp_exit (h a w hs)
theorem Run_ret (h : Fin c Q .ret s) : Run c Q .ret s := fun a w hs => wp_ret (h a w hs)
theorem Run_region {id : Nat} {l : List Oper} (h : RunL c l.toArray Q l s) : Run c Q (.region id l.toArray false) s := fun a w hs => wp_region_lit (h a w hs)
theorem RunL_nil {ops : Array Oper} (h : Fin c Q .normal s) : RunL c ops Q [] s := fun a w hs => wpList_nil (h a w hs)

theorem Fin_block_exit {id : Nat} (h : Fin c Q .normal s) : Fin c (Exit.inBlock id Q) (.exit id) s := fun a w hs => by
  show (if id = id then Q .normal a w else Q (.exit id) a w)
  rw [if_pos rfl]
  exact h a w hs
theorem Fin_block_on {id id' : Nat} (hne : Nat.beq id' id = false) (h : Fin c Q (.exit id') s) : Fin c (Exit.inBlock id Q) (.exit id') s := fun a w hs => by
  show (if id' = id then Q .normal a w else Q (.exit id') a w)
  rw [if_neg (Nat.ne_of_beq_eq_false hne)]
  exact h a w hs

/-- A loop: an invariant over some states of the proof's own, a measure that every round lowers. -/
theorem Run_loop {x : Code} {σ : Type} (S : σ → St) (I : σ → Prop) (μ : σ → Nat) (y : σ) (hI : I y)
    (round : ∀ y, I y → Run c (Exit.then (fun a w => ∃ z, I z ∧ μ z < μ y ∧ Sat c (S z) a w) Q) x (S y)) : Run c Q (.loop x) (S y) := by
  intro a w hs
  refine wp_loop_ghost (fun n a w => ∃ y, I y ∧ μ y = n ∧ Sat c (S y) a w) (μ y) ⟨y, hI, rfl, hs⟩ ?_
  rintro n a w ⟨y, hI, rfl, hs⟩
  refine wp_mono (round y hI a w hs) ?_
  intro e a' w' hq
  cases e with
  | normal =>
    obtain ⟨z, hz, hlt, hs'⟩ := hq
    exact ⟨μ z, hlt, z, hz, rfl, hs'⟩
  | exit id => exact hq
  | goto l => exact hq
  | ret => exact hq
  | panic ch => exact hq
  | outgrown => exact hq
end

/-! ### Operands -/
def ofVal : Value → AV
  | .agg cs => .agg (cs.toList.map .pl)
  | .tuple vs => .tup (vs.toList.map .pl)
  | v => .pl v
theorem CRel.ofVal (O : Nat → Prop) (w : World) (v : Value) : CRel O w (ofVal v) v := by
  have key : ∀ (l : List Value) (i : Nat) (x : AV) (v : Value), (l.map AV.pl)[i]? = some x → l.toArray[i]? = some v → CRel O w x v := by
    intro l i x v hx hv
    simp only [List.getElem?_map, Option.map_eq_some_iff] at hx
    obtain ⟨u, hu, rfl⟩ := hx
    simp only [List.getElem?_toArray] at hv
    rw [hu] at hv
    cases hv
    exact .pl _
  cases v with
  | agg cs => exact .agg (by simp) (fun i x v hx hv => key cs.toList i x v hx (by simpa using hv))
  | tuple vs => exact .tup (by simp) (fun i x v hx hv => key vs.toList i x v hx (by simpa using hv))
  | _ => exact .pl _

def opv (T : List (Nat × AV)) : Operand → Option AV
  | .tmp t => get T t
  | .const v => some (ofVal v)
  | .global g => some (.pl (.pointer (some ⟨g, 0, none⟩)))
  | .func f => some (.fn (.func f) [] [])

theorem SatB.op {c : Ctx} {s : St} {β : Emb} {a : Act} {w : World} (h : SatB c s β a w) {o : Operand} {x : AV} (hx : opv s.T o = some x) : VRel c.F β w x (a.eval o) := by
  cases o with
  | tmp t =>
    obtain ⟨v, hv, hr⟩ := h.slot t x hx
    have : a.eval (.tmp t) = v := by simp [Act.eval, Array.getD_eq_getD_getElem?, hv]
    rw [this]; exact hr
  | const v => cases hx; exact .c (CRel.ofVal _ _ v)
  | global g => cases hx; exact .c (.pl _)
  | func f => cases hx; exact .c (.fn (by simp) (by simp) (by simp) (by simp))

theorem VRel.pl_eq {F : Nat → Prop} {β : Emb} {w : World} {u v : Value} (h : VRel F β w (.pl u) v) : v = u := by
  cases h with
  | c h => cases h; rfl

theorem SatB.pl {c : Ctx} {s : St} {β : Emb} {a : Act} {w : World} (h : SatB c s β a w) {o : Operand} {v : Value} (hx : opv s.T o = some (.pl v)) : a.eval o = v := (h.op hx).pl_eq

/-! ### A step that puts one value -/
def putT (T : List (Nat × AV)) (d : Option Tmp) (x : AV) : List (Nat × AV) :=
  match d with
  | some d => (d, x) :: T
  | none => T
def dstOk (N : Nat) : Option Tmp → Bool
  | some d => Nat.blt d N
  | none => true

theorem HRel.later {F : Nat → Prop} {β : Emb} {H : List (Nat × AObj)} {w w' : World} (h : HRel F β H w) (hb : RowKit.Below w.heap.size w w') : HRel F β H w' := by
  have hO : ∀ b, off F β b → off F β b ∨ w.heap.size ≤ b := fun _ h => .inl h
  have hw : ∀ b, b < w.heap.size → ¬ off F β b → w'.heap[b]? = w.heap[b]? := fun b hb' _ => hb.block b hb'
  have key : ∀ blk o, w.heap[blk]? = some o → w'.heap[blk]? = some o := fun blk o ho => by
    rw [hb.block blk (Array.getElem?_eq_some_iff.1 ho).1]; exact ho
  refine ⟨fun b o hg => ?_, h.dom, h.inj, fun blk hF => Nat.lt_of_lt_of_le (h.fresh blk hF) hb.size, h.apart, h.glob.mono hb.size hO hw⟩
  obtain ⟨p, hp, hr⟩ := h.obj b o hg
  refine ⟨p, hp, ?_⟩
  cases o with
  | row te k fz cs =>
    obtain ⟨h1, h2, h3⟩ := hr
    refine ⟨h1, h2, fun hn => ?_⟩
    obtain ⟨cv, fr, ht, h4, h5, h6, h7⟩ := h3 hn
    exact ⟨cv, fr, key _ _ ht, h4, h5, fun i x hx => let ⟨v, hv, hc, h1c⟩ := h6 i x hx; ⟨v, hv, hc.mono hb.size hO hw, h1c⟩, h7⟩
  | box tb cs =>
    obtain ⟨h1, cv, fr, ht, h5, h6, h7⟩ := hr
    exact ⟨h1, cv, fr, key _ _ ht, h5, fun i x hx => let ⟨v, hv, hc, h1c⟩ := h6 i x hx; ⟨v, hv, hc.mono (fun _ _ h => h) hb.size hO hw, h1c⟩, h7⟩
  | map es =>
    obtain ⟨h1, ms, clock, h2, h3, h4, h5⟩ := hr
    refine ⟨h1, ms, clock, key _ _ h2, h3, fun i x e hx he => ?_, h5⟩
    obtain ⟨q1, q2, q3⟩ := h4 i x e hx he
    exact ⟨q1.mono hb.size hO hw, q2.mono hb.size hO hw, q3⟩
  | siter sx pos => exact ⟨hr.1, key _ _ hr.2⟩

theorem SatB.later {c : Ctx} {s : St} {β : Emb} {a : Act} {w w' : World} (h : SatB c s β a w) (hb : BelowD w w') : SatB c s β a w' := by
  refine ⟨h.defers, h.size, h.heap.later hb.1, fun i x hx => ?_, h.keeps.trans (Keeps.of_below hb), h.stay⟩
  obtain ⟨v, hv, hr⟩ := h.slot i x hx
  exact ⟨v, hv, hr.mono (fun _ _ h => h) hb.1.size (fun _ h => .inl h) (fun b hb' _ => hb.1.block b hb')⟩

theorem SatB.put {c : Ctx} {s : St} {β : Emb} {a : Act} {w : World} (h : SatB c s β a w) {d : Option Tmp} (hd : dstOk c.N d = true) {x : AV} {v : Value} (hv : VRel c.F β w x v) :
    SatB c ⟨putT s.T d x, s.H, s.M⟩ β (a.put d v) w := by
  cases d with
  | none => exact h
  | some d =>
    have hlt : d < a.tmps.size := by rw [h.size]; simpa [dstOk, Nat.blt_eq] using hd
    refine ⟨h.defers, by simp [Act.put, h.size], h.heap, fun i y hy => ?_, h.keeps, h.stay⟩
    simp only [putT, get_cons] at hy
    simp only [Act.put]
    by_cases e : d = i
    · rw [if_pos e] at hy
      cases hy
      subst e
      exact ⟨v, by simp [hlt], hv⟩
    · rw [if_neg e] at hy
      obtain ⟨u, hu, hr⟩ := h.slot i y hy
      exact ⟨u, by rw [Array.getElem?_setIfInBounds_ne e]; exact hu, hr⟩

/-- An operation that leaves the world as it is, and yields the same in every later one. -/
def QOp (c : Ctx) (o : Oper) (s : St) (x : AV) : Prop :=
  ∀ a w β, SatB c s β a w → ∃ v, VRel c.F β w x v ∧ ∀ w', RowKit.Below w.heap.size w w' → (execOp a.eval o).run c.P w' = .ok (.value v) w'

/-- An operation that only reckons with values: whatever the memory. -/
def QOpS (c : Ctx) (o : Oper) (s : St) (x : AV) : Prop :=
  ∀ a w β, SatB c s β a w → ∃ v, VRel c.F β w x v ∧ ∀ w', (execOp a.eval o).run c.P w' = .ok (.value v) w'
theorem QOpS.later {c : Ctx} {o : Oper} {s : St} {x : AV} (h : QOpS c o s x) : QOp c o s x := fun a w β hs => let ⟨v, hv, hr⟩ := h a w β hs; ⟨v, hv, fun w' _ => hr w'⟩
section
variable {c : Ctx} {Q : Exit → Act → World → Prop} {s : St} {ops : Array Oper} {rest : List Oper} {o : Oper}

theorem wanted_none {o : Oper} (hg : o.guard = none) (f : Nat → Option Bool) : Region.wanted o f = true := by simp [Region.wanted, hg]

theorem RunL_q {x : AV} (h : QOp c o s x) (hg : o.guard = none) (hd : dstOk c.N o.dst = true) (hr : RunL c ops Q rest ⟨putT s.T o.dst x, s.H, s.M⟩) : RunL c ops Q (o :: rest) s := by
  rintro a w ⟨β, hs⟩
  obtain ⟨v, hv, hrun⟩ := h a w β hs
  refine wpList_plain hg fun K hK => ?_
  unfold Oper.wp
  rw [hrun w (RowKit.Below.refl _ _), Oper.upon_value]
  exact hK _ _ (hr _ _ ⟨β, hs.put hd hv⟩)

/-! ### Guards, tests -/
theorem yielded_of {β : Emb} {a : Act} {w : World} (hs : SatB c s β a w) {j d : Nat} (hj : ((ops[j]?).bind (·.dst)) = some d) {b : Bool} (hx : get s.T d = some (.pl (.bool b))) : yielded ops a.tmps j = some b := by
  obtain ⟨v, hv, hr⟩ := hs.slot d _ hx
  obtain rfl := hr.pl_eq
  simp [yielded, hj, hv]

theorem RunL_on {j d : Nat} {b : Bool} (hg : o.guard = some (j, b)) (hj : ((ops[j]?).bind (·.dst)) = some d) (hx : get s.T d = some (.pl (.bool b)))
    (h : RunL c ops Q ({ o with guard := none } :: rest) s) : RunL c ops Q (o :: rest) s := by
  rintro a w ⟨β, hs⟩
  have h1 := h a w ⟨β, hs⟩
  have hw : Region.wanted o (yielded ops a.tmps) = true := by simp [Region.wanted, hg, yielded_of hs hj hx]
  unfold wpList at h1 ⊢
  rw [if_pos (wanted_none rfl _)] at h1
  rw [if_pos hw]
  exact h1
theorem RunL_split {j d : Nat} {b e : Bool} (hg : o.guard = some (j, b)) (hj : ((ops[j]?).bind (·.dst)) = some d) (hx : get s.T d = some (.pl (.bool e)))
    (ht : e = true → RunL c ops Q (o :: rest) ⟨(d, .pl (.bool true)) :: s.T, s.H, s.M⟩) (hf : e = false → RunL c ops Q (o :: rest) ⟨(d, .pl (.bool false)) :: s.T, s.H, s.M⟩) : RunL c ops Q (o :: rest) s := by
  rintro a w ⟨β, hs⟩
  have key : ∀ i x, get ((d, AV.pl (.bool e)) :: s.T) i = some x → ∃ v, a.tmps[i]? = some v ∧ VRel c.F β w x v := by
    intro i x hi
    rw [get_cons] at hi
    by_cases q : d = i
    · rw [if_pos q] at hi; cases hi; subst q; exact hs.slot _ _ hx
    · rw [if_neg q] at hi; exact hs.slot _ _ hi
  cases e with
  | true => exact ht rfl a w ⟨β, hs.defers, hs.size, hs.heap, key, hs.keeps, hs.stay⟩
  | false => exact hf rfl a w ⟨β, hs.defers, hs.size, hs.heap, key, hs.keeps, hs.stay⟩

theorem Run_cond_true {x : Operand} {p q : Code} (hx : opv s.T x = some (.pl (.bool true))) (h : Run c Q p s) : Run c Q (.cond x p q) s := by
  rintro a w ⟨β, hs⟩
  exact wp_cond_true (hs.pl hx) (h a w ⟨β, hs⟩)
theorem Run_cond_false {x : Operand} {p q : Code} (hx : opv s.T x = some (.pl (.bool false))) (h : Run c Q q s) : Run c Q (.cond x p q) s := by
  rintro a w ⟨β, hs⟩
  exact wp_cond_false (hs.pl hx) (h a w ⟨β, hs⟩)
end

/-! ### Weaker states -/
/-- Each slot of the first list is so in the second one. -/
def Sub : List (Nat × AV) → List (Nat × AV) → Prop
  | [], _ => True
  | (i, x) :: r, T => get T i = some x ∧ Sub r T
theorem Sub.get {T' T : List (Nat × AV)} (h : Sub T' T) {i : Nat} {x : AV} (hx : get T' i = some x) : Abs.get T i = some x := by
  induction T' with
  | nil => cases hx
  | cons q r ih =>
    obtain ⟨j, y⟩ := q
    rw [get_cons] at hx
    by_cases e : j = i
    · rw [if_pos e] at hx; cases hx; subst e; exact h.1
    · rw [if_neg e] at hx; exact ih h.2 hx
theorem Sat.sub {c : Ctx} {T T' : List (Nat × AV)} {H : List (Nat × AObj)} {M : List Nat} {a : Act} {w : World} (h : Sat c ⟨T, H, M⟩ a w) (hT : Sub T' T) : Sat c ⟨T', H, M⟩ a w := by
  obtain ⟨β, hs⟩ := h
  exact ⟨β, hs.defers, hs.size, hs.heap, fun i x hx => hs.slot i x (hT.get hx), hs.keeps, hs.stay⟩

theorem own_mono {β β' : Emb} (h : ∀ b p, β' b = some p → β b = some p) {k : Nat} (ho : own β' k) : own β k := by
  obtain ⟨b, p, hp, hn, hk⟩ := ho
  exact ⟨b, p, h b p hp, hn, hk⟩

/-- An owned object is let go. -/
theorem Sat.drop {c : Ctx} {T : List (Nat × AV)} {H : List (Nat × AObj)} {M : List Nat} {a : Act} {w : World} (h : Sat c ⟨T, H, M⟩ a w) (b : Nat) : Sat c ⟨killT b T, killH b H, b :: M⟩ a w := by
  obtain ⟨β, hs⟩ := h
  let β' : Emb := fun i => if b = i then none else β i
  have hβ : ∀ i p, i ≠ b → β i = some p → β' i = some p := fun i p hi hp => by show (if b = i then none else β i) = some p; rw [if_neg (Ne.symm hi)]; exact hp
  have hβ' : ∀ i p, β' i = some p → b ≠ i ∧ β i = some p := fun i p hp => by
    by_cases e : b = i
    · simp [β', e] at hp
    · simp only [β', if_neg e] at hp; exact ⟨e, hp⟩
  have hO : ∀ k, off c.F β' k → off c.F β k ∨ w.heap.size ≤ k := fun k hk => .inl (hk.imp id (own_mono fun i p hp => (hβ' i p hp).2))
  have hw : ∀ k, k < w.heap.size → ¬ off c.F β k → w.heap[k]? = w.heap[k]? := fun _ _ _ => rfl
  refine ⟨β', hs.defers, hs.size, ⟨fun i o hg => ?_, fun i p hp => ?_, fun i j p q hp hq => hs.heap.inj i j p q (hβ' i p hp).2 (hβ' j q hq).2, hs.heap.fresh, fun i p hp => hs.heap.apart i p (hβ' i p hp).2, hs.heap.glob.mono (Nat.le_refl _) hO hw⟩, fun i x hx => ?_, ?_, fun i p hp hm => ?_⟩
  · rw [hget_killH] at hg
    by_cases e : b = i
    · rw [if_pos e] at hg; cases hg
    · rw [if_neg e, Option.map_eq_some_iff] at hg
      obtain ⟨o, ho, rfl⟩ := hg
      obtain ⟨p, hp, hr⟩ := hs.heap.obj i o ho
      refine ⟨p, hβ i p (Ne.symm e) hp, ?_⟩
      cases o with
      | row te k fz cs =>
        obtain ⟨h1, h2, h3⟩ := hr
        refine ⟨h1, h2, fun hn => ?_⟩
        obtain ⟨cv, fr, h4, h5, h6, h7, h8⟩ := h3 hn
        exact ⟨cv, fr, h4, h5, h6, fun i x hx => let ⟨v, hv, hc, h1c⟩ := h7 i x hx; ⟨v, hv, hc.mono (Nat.le_refl _) hO hw, h1c⟩, h8⟩
      | box tb cs =>
        obtain ⟨h1, cv, fr, h4, h5, h6, h7⟩ := hr
        refine ⟨h1, cv, fr, h4, by rw [AV.killL_length]; exact h5, fun i x hx => ?_, h7⟩
        obtain ⟨y, hy, rfl⟩ := AV.killL_get _ _ _ _ hx
        obtain ⟨v, hv, hc, h1c⟩ := h6 i y hy
        exact ⟨v, hv, hc.kill hβ (Nat.le_refl _) hO hw, h1c⟩
      | map es =>
        obtain ⟨h1, ms, clock, h2, h3, h4, h5⟩ := hr
        refine ⟨h1, ms, clock, h2, h3, fun i x e hx he => ?_, h5⟩
        obtain ⟨q1, q2, q3⟩ := h4 i x e hx he
        exact ⟨q1.mono (Nat.le_refl _) hO hw, q2.mono (Nat.le_refl _) hO hw, q3⟩
      | siter sx pos => exact hr
  · obtain ⟨o, ho⟩ := hs.heap.dom i p (hβ' i p hp).2
    exact ⟨o.kill b, by rw [hget_killH, if_neg (hβ' i p hp).1, ho]; rfl⟩
  · rw [get_killT, Option.map_eq_some_iff] at hx
    obtain ⟨y, hy, rfl⟩ := hx
    obtain ⟨v, hv, hr⟩ := hs.slot i y hy
    exact ⟨v, hv, hr.kill hβ (Nat.le_refl _) hO hw⟩
  · exact ⟨hs.keeps.os, hs.keeps.tape, hs.keeps.output, hs.keeps.size, hs.keeps.block, fun k hk => hs.keeps.grows k (own_mono (fun i p hp => (hβ' i p hp).2) hk)⟩
  · rw [mem_cons, Bool.or_eq_false_iff, decide_eq_false_iff_not] at hm
    exact hβ i p (Ne.symm hm.1) (hs.stay i p hp hm.2)

end Go.Abs
