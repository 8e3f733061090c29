/-
  THE OPERATIONS THAT LEAVE THE WORLD AS IT IS, one lemma each. Generic over the program. Conditions: none.
-/
import Derived.Test.YtipbfnjpfmmkfaaGreatDoorAbsCode
import Derived.Laws.Cells
import Derived.Laws.BytesArg
set_option linter.unusedVariables false
set_option linter.unusedSimpArgs false
set_option linter.unusedSectionVars false
namespace Go.Abs
open Go
variable [GTab]

/-! ### What a value must be -/
section
variable {F : Nat → Prop} {β : Emb} {w : World} {v : Value}
theorem lift {cs : List AV} {vs : Array Value} {R : AV → Value → Prop} (hl : cs.length = vs.size) (h : ∀ (i : Nat) (x : AV) (v : Value), cs[i]? = some x → vs[i]? = some v → R x v) (i : Nat) (x : AV) (hx : cs[i]? = some x) : ∃ u, vs[i]? = some u ∧ R x u := by
  have hi : i < cs.length := (List.getElem?_eq_some_iff.1 hx).1
  have hv : vs[i]? = some (vs[i]'(by omega)) := by simp
  exact ⟨_, hv, h i x _ hx hv⟩
theorem VRel.agg_inv {cs : List AV} (h : VRel F β w (.agg cs) v) : ∃ vs : Array Value, v = .agg vs ∧ cs.length = vs.size ∧ ∀ (i : Nat) (x : AV), cs[i]? = some x → ∃ u, vs[i]? = some u ∧ VRel F β w x u := by
  cases h with
  | c h => cases h with | agg hl h => exact ⟨_, rfl, hl, lift hl fun i x v hx hv => .c (h i x v hx hv)⟩
  | agg hl h => exact ⟨_, rfl, hl, lift hl h⟩
theorem VRel.tup_inv {cs : List AV} (h : VRel F β w (.tup cs) v) : ∃ vs : Array Value, v = .tuple vs ∧ cs.length = vs.size ∧ ∀ (i : Nat) (x : AV), cs[i]? = some x → ∃ u, vs[i]? = some u ∧ VRel F β w x u := by
  cases h with
  | c h => cases h with | tup hl h => exact ⟨_, rfl, hl, lift hl fun i x v hx hv => .c (h i x v hx hv)⟩
  | tup hl h => exact ⟨_, rfl, hl, lift hl h⟩
theorem VRel.fn_inv {f : Fn} {cs ds : List AV} (h : VRel F β w (.fn f cs ds) v) : ∃ vs us : Array Value, v = .func f vs us ∧ (cs.length = vs.size ∧ ∀ (i : Nat) (x : AV), cs[i]? = some x → ∃ u, vs[i]? = some u ∧ VRel F β w x u) ∧
    (ds.length = us.size ∧ ∀ (i : Nat) (x : AV), ds[i]? = some x → ∃ u, us[i]? = some u ∧ VRel F β w x u) := by
  cases h with
  | c h => cases h with | fn hl h hl2 h2 => exact ⟨_, _, rfl, ⟨hl, lift hl fun i x v hx hv => .c (h i x v hx hv)⟩, ⟨hl2, lift hl2 fun i x v hx hv => .c (h2 i x v hx hv)⟩⟩
  | fn hl h hl2 h2 => exact ⟨_, _, rfl, ⟨hl, lift hl h⟩, ⟨hl2, lift hl2 h2⟩⟩
theorem VRel.vptr_inv {cs : List AV} (h : VRel F β w (.vptr cs) v) : ∃ b o, v = .pointer (some ⟨b, o, none⟩) ∧ ¬ off F β b ∧ b < w.heap.size ∧ ∀ (i : Nat) (x : AV), cs[i]? = some x → ∃ u, w.cell? ⟨b, o + i, none⟩ = some u ∧ CRel (off F β) w x u ∧ u.oneCell' = true := by
  cases h with
  | c h => cases h with | vptr f hc ho hb h => exact ⟨_, _, rfl, ho, hb, fun i x hx => ⟨_, (hc i x hx).1, h i x hx, (hc i x hx).2⟩⟩
theorem VRel.vs_inv {n : Nat} {cs : List AV} (h : VRel F β w (.vs n cs) v) : ∃ A c, v = .slice A n c ∧ n ≤ c ∧ (n = 0 ∨ ∃ b o, A = some ⟨b, o, none⟩ ∧ ¬ off F β b ∧ b < w.heap.size ∧
    ∀ (i : Nat) (x : AV), cs[i]? = some x → ∃ u, w.cell? ⟨b, o + i, none⟩ = some u ∧ CRel (off F β) w x u ∧ u.oneCell' = true) := by
  cases h with
  | c h => cases h with
    | vs0 => exact ⟨_, _, rfl, Nat.zero_le _, .inl rfl⟩
    | vs hn f hc ho hb h => exact ⟨_, _, rfl, hn, .inr ⟨_, _, rfl, ho, hb, fun i x hx => ⟨_, (hc i x hx).1, h i x hx, (hc i x hx).2⟩⟩⟩
theorem VRel.vptr_mk {cs : List AV} {b o : Nat} (ho : ¬ off F β b) (hb : b < w.heap.size) (h : ∀ (i : Nat) (x : AV), cs[i]? = some x → ∃ u, w.cell? ⟨b, o + i, none⟩ = some u ∧ CRel (off F β) w x u ∧ u.oneCell' = true) : CRel (off F β) w (.vptr cs) (.pointer (some ⟨b, o, none⟩)) := by
  refine .vptr (fun i => (w.cell? ⟨b, o + i, none⟩).getD undef) (fun i x hx => ?_) ho hb (fun i x hx => ?_)
  · obtain ⟨u, hu, _, h1⟩ := h i x hx; rw [hu]; exact ⟨rfl, h1⟩
  · obtain ⟨u, hu, hr, _⟩ := h i x hx; rw [hu]; exact hr
theorem VRel.vs_mk {n c : Nat} {cs : List AV} {b o : Nat} (hn : n ≤ c) (ho : ¬ off F β b) (hb : b < w.heap.size) (h : ∀ (i : Nat) (x : AV), cs[i]? = some x → ∃ u, w.cell? ⟨b, o + i, none⟩ = some u ∧ CRel (off F β) w x u ∧ u.oneCell' = true) : CRel (off F β) w (.vs n cs) (.slice (some ⟨b, o, none⟩) n c) := by
  refine .vs hn (fun i => (w.cell? ⟨b, o + i, none⟩).getD undef) (fun i x hx => ?_) ho hb (fun i x hx => ?_)
  · obtain ⟨u, hu, _, h1⟩ := h i x hx; rw [hu]; exact ⟨rfl, h1⟩
  · obtain ⟨u, hu, hr, _⟩ := h i x hx; rw [hu]; exact hr
theorem VRel.ptr_inv {b o : Nat} (h : VRel F β w (.ptr b o) v) : ∃ p, β b = some p ∧ p.nil = false ∧ v = .pointer (some ⟨p.blk, p.st + o, none⟩) := by
  cases h with
  | c h => cases h
  | ptr hp hn => exact ⟨_, hp, hn, rfl⟩
theorem VRel.sl_inv2 {b o n : Nat} (h : VRel F β w (.sl b o n) v) : ∃ p, β b = some p ∧ ((p.nil = false ∧ ∃ c, v = .slice (some ⟨p.blk, p.st + o, none⟩) n c ∧ n ≤ c ∧ p.st + o + c * p.k ≤ p.lim) ∨ (n = 0 ∧ ∃ A, v = .slice A 0 0 ∧ ∀ ad, A = some ad → p.nil = false ∧ ad.block = p.blk)) := by
  cases h with
  | c h => cases h
  | sl hp hn hc hl => exact ⟨_, hp, .inl ⟨hn, _, rfl, hc, hl⟩⟩
  | slz hp ha => exact ⟨_, hp, .inr ⟨rfl, _, rfl, ha⟩⟩
theorem VRel.sl_inv {b o n : Nat} (h : VRel F β w (.sl b o n) v) : ∃ p, β b = some p ∧ ((p.nil = false ∧ ∃ c, v = .slice (some ⟨p.blk, p.st + o, none⟩) n c ∧ n ≤ c ∧ p.st + o + c * p.k ≤ p.lim) ∨ (n = 0 ∧ ∃ A, v = .slice A 0 0)) := by
  cases h with
  | c h => cases h
  | sl hp hn hc hl => exact ⟨_, hp, .inl ⟨hn, _, rfl, hc, hl⟩⟩
  | slz hp ha => exact ⟨_, hp, .inr ⟨rfl, _, rfl⟩⟩
end

theorem Below.cell_at {w w' : World} (h : RowKit.Below w.heap.size w w') {a : Addr} {v : Value} (hc : w.cell? a = some v) : w'.cell? a = some v := by
  rw [h.cell (World.block_lt_of_cell? w a hc)]; exact hc

/-! ### Memory behind a pointer -/
def memAt (H : List (Nat × AObj)) : AV → Option (List AV)
  | .vptr cs => some cs
  | .ptr b o => match hget H b with
    | some (.row _ _ _ cs) => some (cs.drop o)
    | some (.box _ cs) => some (cs.drop o)
    | _ => none
  | _ => none

theorem cell_of_cells {w : World} {blk : Nat} {te : TypeId} {c : Array Value} {fr : Nat × Nat} (h : CellsAt w blk te c fr) (o : Nat) : w.cell? ⟨blk, o, none⟩ = c[o]? := by
  have ht : w.heap[blk]? = some (.cells c te fr) := h
  simp [World.cell?, ht]

theorem SatB.mem {c : Ctx} {s : St} {β : Emb} {a : Act} {w : World} (hs : SatB c s β a w) {x : AV} {v : Value} (hv : VRel c.F β w x v) {cs : List AV} (hm : memAt s.H x = some cs) :
    ∃ b o, v = .pointer (some ⟨b, o, none⟩) ∧ b < w.heap.size ∧ ∀ (i : Nat) (y : AV), cs[i]? = some y → ∃ u, w.cell? ⟨b, o + i, none⟩ = some u ∧ VRel c.F β w y u ∧ u.oneCell' = true := by
  cases x using AV.parts with
  | vptr ds =>
    cases hm
    obtain ⟨b, o, rfl, _, hb, h⟩ := hv.vptr_inv
    exact ⟨b, o, rfl, hb, fun i y hy => let ⟨u, hu, hr, h1⟩ := h i y hy; ⟨u, hu, .c hr, h1⟩⟩
  | ptr b o =>
    obtain ⟨p, hp, hn, rfl⟩ := hv.ptr_inv
    simp only [memAt] at hm
    cases hg : hget s.H b with
    | none => simp [hg] at hm
    | some ob =>
      obtain ⟨p', hp', hr⟩ := hs.heap.obj b ob hg
      rw [hp] at hp'; cases hp'
      cases ob with
      | row te k fz ds =>
        simp only [hg, Option.some.injEq] at hm
        subst hm
        obtain ⟨_, _, h3⟩ := hr
        obtain ⟨cv, fr, hc, _, _, h6, _⟩ := h3 hn
        have hlt : p.blk < w.heap.size := (Array.getElem?_eq_some_iff.1 hc).1
        refine ⟨_, _, rfl, hlt, fun i y hy => ?_⟩
        rw [List.getElem?_drop] at hy
        obtain ⟨u, hu, hcr, h1⟩ := h6 _ y hy
        exact ⟨u, by rw [cell_of_cells hc, Nat.add_assoc]; exact hu, .c hcr, h1⟩
      | box tb ds =>
        simp only [hg, Option.some.injEq] at hm
        subst hm
        obtain ⟨_, cv, fr, hc, _, h6, _⟩ := hr
        have hlt : p.blk < w.heap.size := (Array.getElem?_eq_some_iff.1 hc).1
        refine ⟨_, _, rfl, hlt, fun i y hy => ?_⟩
        rw [List.getElem?_drop] at hy
        obtain ⟨u, hu, hcr, h1⟩ := h6 _ y hy
        exact ⟨u, by rw [cell_of_cells hc, Nat.add_assoc]; exact hu, hcr, h1⟩
      | map es => simp [hg] at hm
      | siter sx pos => simp [hg] at hm
  | _ => simp [memAt] at hm

/-! ### Types -/
def aggD : TypeDesc → Bool
  | .struct _ | .array _ _ => true
  | _ => false
section
variable {c : Ctx} {t : Nat} {ti : TI} (h : tget c.U t = some ti) (w : World)
include h
theorem ty_under : c.P.underlying t = some ti.desc := (c.hU t ti h).1
theorem ty_size : (sizeOf t).run c.P w = .ok ti.size w := by
  obtain ⟨_, i, hi, h1, _⟩ := c.hU t ti h
  simp [sizeOf, typeInfo, hi, h1]
theorem ty_zero : (zeroValue t).run c.P w = .ok ti.zero w := by
  obtain ⟨_, i, hi, _, _, h3⟩ := c.hU t ti h
  simp [zeroValue, typeInfo, hi, h3]
theorem ty_info : ∃ i, c.P.info? t = some i ∧ i.size = ti.size ∧ i.bytes = ti.bytes ∧ i.zero = some ti.zero := (c.hU t ti h).2
theorem ty_agg : (isAgg t).run c.P w = .ok (aggD ti.desc) w := by
  unfold isAgg
  simp only [Sem.run_bind, run_underlying (ty_under h), Result.andThen_ok]
  cases ti.desc <;> rfl
theorem ty_desc : (underlying t).run c.P w = .ok ti.desc w := run_underlying (ty_under h) w
end

theorem run_equalIn_bool {P : Program} (w : World) (d : Nat) {t : TypeId} (a b : Bool) (h : P.underlying t = some .bool) : (Op.equalIn (d + 1) t (.bool a) (.bool b)).run P w = .ok (a == b) w := by
  simp [Op.equalIn, run_underlying h]

/-! ### Operations on plain values -/
section
variable {c : Ctx} {s : St} {d : Option Tmp} {ty : TypeId} {pos : String} {af : Array Edge} {g : Option (Nat × Bool)}

theorem s_move {x : Operand} {ax : AV} (hx : opv s.T x = some ax) : QOpS c ⟨d, .move x, ty, pos, af, g⟩ s ax := by
  intro a w β hs
  exact ⟨_, hs.op hx, fun w' => rfl⟩
theorem q_move {x : Operand} {ax : AV} (hx : opv s.T x = some ax) : QOp c ⟨d, .move x, ty, pos, af, g⟩ s ax := (s_move hx).later
theorem s_assign {x : Operand} {ax : AV} (hx : opv s.T x = some ax) : QOpS c ⟨d, .assign x, ty, pos, af, g⟩ s ax := by
  intro a w β hs
  exact ⟨_, hs.op hx, fun w' => rfl⟩
theorem q_assign {x : Operand} {ax : AV} (hx : opv s.T x = some ax) : QOp c ⟨d, .assign x, ty, pos, af, g⟩ s ax := (s_assign hx).later
theorem q_pick_true {x y z : Operand} {ax : AV} (hc : opv s.T x = some (.pl (.bool true))) (hx : opv s.T y = some ax) : QOp c ⟨d, .pick x y z, ty, pos, af, g⟩ s ax := by
  intro a w β hs
  exact ⟨_, hs.op hx, fun w' _ => by simp [execOp, asBool, hs.pl hc]⟩
theorem q_pick_false {x y z : Operand} {ax : AV} (hc : opv s.T x = some (.pl (.bool false))) (hx : opv s.T z = some ax) : QOp c ⟨d, .pick x y z, ty, pos, af, g⟩ s ax := by
  intro a w β hs
  exact ⟨_, hs.op hx, fun w' _ => by simp [execOp, asBool, hs.pl hc]⟩
theorem q_un {op : UnOp} {t : TypeId} {x : Operand} {u r : Value} (hx : opv s.T x = some (.pl u)) (hr : ∀ w', (Op.unary op u).run c.P w' = .ok r w') : QOp c ⟨d, .unOp op t x, ty, pos, af, g⟩ s (.pl r) := by
  intro a w β hs
  exact ⟨_, .c (.pl r), fun w' _ => by simp [execOp, hs.pl hx, hr]⟩
theorem q_bin {op : BinOp} {t t' : TypeId} {x y : Operand} {u v r : Value} (hx : opv s.T x = some (.pl u)) (hy : opv s.T y = some (.pl v))
    (hg : eqGuard op t x y u v = pure ()) (hr : ∀ w', (binOp op t u v).run c.P w' = .ok r w') : QOp c ⟨d, .binOp op t x y t', ty, pos, af, g⟩ s (.pl r) := by
  intro a w β hs
  exact ⟨_, .c (.pl r), fun w' _ => by simp [execOp, hs.pl hx, hs.pl hy, hg, hr]⟩
/-- Whole numbers. -/
theorem q_int {op : BinOp} {t t' : TypeId} {x y : Operand} {k : IntKind} {m n : Int} {r : Value} (hx : opv s.T x = some (.pl (.int k m))) (hy : opv s.T y = some (.pl (.int k n)))
    (hr : ∀ w', (binOp op t (.int k m) (.int k n)).run c.P w' = .ok r w') : QOp c ⟨d, .binOp op t x y t', ty, pos, af, g⟩ s (.pl r) :=
  q_bin hx hy (by cases op <;> rfl) hr
theorem q_cmp {op : BinOp} {t t' : TypeId} {x y : Operand} {k : IntKind} {m n : Int} {b : Bool} (hx : opv s.T x = some (.pl (.int k m))) (hy : opv s.T y = some (.pl (.int k n)))
    (hb : binOp op t (.int k m) (.int k n) = pure (.bool b)) : QOp c ⟨d, .binOp op t x y t', ty, pos, af, g⟩ s (.pl (.bool b)) :=
  q_int hx hy fun w' => by rw [hb]; rfl
/-- Strings. -/
theorem q_str {op : BinOp} {t t' : TypeId} {x y : Operand} {m n : ByteArray} {r : Value} (hx : opv s.T x = some (.pl (.string m))) (hy : opv s.T y = some (.pl (.string n)))
    (hr : ∀ w', (Op.stringOp op m n).run c.P w' = .ok r w') : QOp c ⟨d, .binOp op t x y t', ty, pos, af, g⟩ s (.pl r) :=
  q_bin hx hy (by cases op <;> rfl) (fun w' => by
    have : binOp op t (.string m) (.string n) = Op.stringOp op m n := by cases op <;> rfl
    rw [this]; exact hr w')
theorem q_bool {op : BinOp} {t t' : TypeId} {x y : Operand} {m n r : Bool} {ti : TI} (ht : tget c.U t = some ti) (hd : ti.desc = .bool) (hx : opv s.T x = some (.pl (.bool m))) (hy : opv s.T y = some (.pl (.bool n)))
    (hop : (op = .eql ∧ r = (m == n)) ∨ (op = .neq ∧ r = !(m == n))) : QOp c ⟨d, .binOp op t x y t', ty, pos, af, g⟩ s (.pl (.bool r)) := by
  have hu := ty_under ht
  rw [hd] at hu
  have he : ∀ w', (Op.equal t (.bool m) (.bool n)).run c.P w' = .ok (m == n) w' := fun w' => run_equalIn_bool w' 9999 m n hu
  refine q_bin hx hy (by cases op <;> rfl) (fun w' => ?_)
  rcases hop with ⟨rfl, rfl⟩ | ⟨rfl, rfl⟩
  · have : binOp .eql t (.bool m) (.bool n) = (do pure (.bool (← Op.equal t (.bool m) (.bool n)))) := rfl
    rw [this]; simp only [Sem.run_bind, he, Result.andThen_ok, Sem.run_pure]
  · have : binOp .neq t (.bool m) (.bool n) = (do pure (.bool (!(← Op.equal t (.bool m) (.bool n))))) := rfl
    rw [this]; simp only [Sem.run_bind, he, Result.andThen_ok, Sem.run_pure]
theorem q_conv_int {src dst : TypeId} {x : Operand} {k : IntKind} {n : Int} {t1 t2 : TI} {k2 : IntKind} (h1 : tget c.U src = some t1) (h2 : tget c.U dst = some t2) (hk : t2.desc = .int k2)
    (hx : opv s.T x = some (.pl (.int k n))) : QOp c ⟨d, .convert src dst x, ty, pos, af, g⟩ s (.pl (.int k2 (k2.wrap n))) := by
  intro a w β hs
  refine ⟨_, .c (.pl _), fun w' _ => ?_⟩
  have hu := ty_under h2
  rw [hk] at hu
  simp [execOp, hs.pl hx, convert, run_underlying (ty_under h1), run_underlying hu, Conv.intToInt]
theorem q_extract {x : Operand} {i : Nat} {xs : List AV} {ax : AV} (hx : opv s.T x = some (.tup xs)) (hi : xs[i]? = some ax) : QOp c ⟨d, .extract x i, ty, pos, af, g⟩ s ax := by
  intro a w β hs
  obtain ⟨vs, hv, _, h⟩ := (hs.op hx).tup_inv
  obtain ⟨u, hu, hr⟩ := h i ax hi
  exact ⟨u, hr, fun w' _ => by simp [execOp, hv, Instr.extract, hu]⟩

/-! ### Structs -/
theorem q_field {t : TypeId} {x : Operand} {i : Nat} {xs : List AV} {ti fi : TI} {fs : Array Field} {f : Field} {ax : AV} (ht : tget c.U t = some ti) (hd : ti.desc = .struct fs) (hf : fs[i]? = some f)
    (hft : tget c.U f.type = some fi) (hfa : aggD fi.desc = false) (hx : opv s.T x = some (.agg xs)) (hi : xs[f.offset]? = some ax) : QOp c ⟨d, .field t x i, ty, pos, af, g⟩ s ax := by
  intro a w β hs
  obtain ⟨vs, hv, _, h⟩ := (hs.op hx).agg_inv
  obtain ⟨u, hu, hr⟩ := h _ ax hi
  have hu' := ty_under ht
  rw [hd] at hu'
  refine ⟨u, hr, fun w' _ => ?_⟩
  simp [execOp, hv, Instr.field, run_underlying hu', hf, asAgg, part, ty_agg hft, hfa, hu]
/-! ### Addresses -/
def addrOff : AV → Nat → Option AV
  | .vptr cs, o => some (.vptr (cs.drop o))
  | .ptr b o', o => some (.ptr b (o' + o))
  | _, _ => none
theorem VRel.addrOff {F : Nat → Prop} {β : Emb} {w : World} {x y : AV} {v : Value} {o : Nat} (h : VRel F β w x v) (hy : Abs.addrOff x o = some y) :
    ∃ b o', v = .pointer (some ⟨b, o', none⟩) ∧ VRel F β w y (.pointer (some ⟨b, o' + o, none⟩)) := by
  cases x using AV.parts <;> simp only [Abs.addrOff, Option.some.injEq] at hy <;> try cases hy
  · obtain ⟨b, o', rfl, ho, hb, h⟩ := h.vptr_inv
    refine ⟨b, o', rfl, .c (VRel.vptr_mk ho hb fun i y hy => ?_)⟩
    rw [List.getElem?_drop] at hy
    rw [Nat.add_assoc]
    exact h _ y hy
  · obtain ⟨p, hp, hn, rfl⟩ := h.ptr_inv
    exact ⟨_, _, rfl, by rw [Nat.add_assoc]; exact .ptr hp hn⟩
theorem s_fieldAddr {t : TypeId} {x : Operand} {i : Nat} {ax ay : AV} {ti fi : TI} {fs : Array Field} {f : Field} (ht : tget c.U t = some ti) (hd : ti.desc = .struct fs) (hf : fs[i]? = some f)
    (hft : tget c.U f.type = some fi) (hne : Nat.beq fi.size 0 = false) (hx : opv s.T x = some ax) (hy : addrOff ax f.offset = some ay) : QOpS c ⟨d, .fieldAddr t x i, ty, pos, af, g⟩ s ay := by
  intro a w β hs
  obtain ⟨b, o', hv, hr⟩ := (hs.op hx).addrOff hy
  have hu' := ty_under ht
  rw [hd] at hu'
  refine ⟨_, hr, fun w' => ?_⟩
  simp [execOp, hv, Instr.fieldAt, run_underlying hu', hf, Instr.sureAddr, fieldPlace, ty_size hft, Nat.ne_of_beq_eq_false hne, Addr.add_lit]
theorem q_fieldAddr {t : TypeId} {x : Operand} {i : Nat} {ax ay : AV} {ti fi : TI} {fs : Array Field} {f : Field} (ht : tget c.U t = some ti) (hd : ti.desc = .struct fs) (hf : fs[i]? = some f)
    (hft : tget c.U f.type = some fi) (hne : Nat.beq fi.size 0 = false) (hx : opv s.T x = some ax) (hy : addrOff ax f.offset = some ay) : QOp c ⟨d, .fieldAddr t x i, ty, pos, af, g⟩ s ay := (s_fieldAddr ht hd hf hft hne hx hy).later
theorem s_nilCheck {x : Operand} {ax ay : AV} (hx : opv s.T x = some ax) (hy : addrOff ax 0 = some ay) : QOpS c ⟨d, .nilCheck x, ty, pos, af, g⟩ s ax := by
  intro a w β hs
  obtain ⟨b, o', hv, _⟩ := (hs.op hx).addrOff hy
  exact ⟨_, hs.op hx, fun w' => by simp [execOp, hv]⟩
theorem q_nilCheck {x : Operand} {ax ay : AV} (hx : opv s.T x = some ax) (hy : addrOff ax 0 = some ay) : QOp c ⟨d, .nilCheck x, ty, pos, af, g⟩ s ax := (s_nilCheck hx hy).later

theorem a_add (b o n : Nat) : Addr.add ⟨b, o, none⟩ n = ⟨b, o + n, none⟩ := Addr.add_lit b o n

/-- An element's address, in memory that nobody writes. -/
theorem s_indexAddr_vs {t : TypeId} {x y : Operand} {n : Nat} {cs : List AV} {k : IntKind} {i : Nat} {ti ei : TI} {e : TypeId} (ht : tget c.U t = some ti) (hd : ti.desc = .slice e) (he : tget c.U e = some ei)
    (hx : opv s.T x = some (.vs n cs)) (hy : opv s.T y = some (.pl (.int k (i : Int)))) (hi : i < n) : QOpS c ⟨d, .indexAddr t x y, ty, pos, af, g⟩ s (.vptr (cs.drop (i * ei.size))) := by
  intro a w β hs
  obtain ⟨A, cap, hv, _, h⟩ := (hs.op hx).vs_inv
  rcases h with h0 | ⟨b, o, rfl, ho, hb, h⟩
  · omega
  have hu' := ty_under ht
  rw [hd] at hu'
  refine ⟨.pointer (some ⟨b, o + i * ei.size, none⟩), .c (VRel.vptr_mk ho hb fun j y hy => ?_), fun w' => ?_⟩
  · rw [List.getElem?_drop] at hy
    rw [Nat.add_assoc]
    exact h _ y hy
  · simp [execOp, hv, hs.pl hy, Instr.indexAt, asIntOf, run_underlying hu', hi, ty_size he, a_add]
/-- An element's address, in a row of one's own. -/
theorem s_indexAddr_sl {t : TypeId} {x y : Operand} {b o n : Nat} {k : IntKind} {i : Nat} {ti ei : TI} {e : TypeId} (ht : tget c.U t = some ti) (hd : ti.desc = .slice e) (he : tget c.U e = some ei)
    (hx : opv s.T x = some (.sl b o n)) (hy : opv s.T y = some (.pl (.int k (i : Int)))) (hi : i < n) : QOpS c ⟨d, .indexAddr t x y, ty, pos, af, g⟩ s (.ptr b (o + i * ei.size)) := by
  intro a w β hs
  obtain ⟨p, hp, ⟨hn, cap, hv, _, _⟩ | ⟨h0, _⟩⟩ := (hs.op hx).sl_inv
  · have hu' := ty_under ht
    rw [hd] at hu'
    refine ⟨.pointer (some ⟨p.blk, p.st + (o + i * ei.size), none⟩), .ptr hp hn, fun w' => ?_⟩
    simp [execOp, hv, hs.pl hy, Instr.indexAt, asIntOf, run_underlying hu', hi, ty_size he, a_add, Nat.add_assoc]
  · omega
theorem s_indexAddr_sl0 {t : TypeId} {x y : Operand} {b n : Nat} {k : IntKind} {i : Nat} {ti ei : TI} {e : TypeId} (ht : tget c.U t = some ti) (hd : ti.desc = .slice e) (he : tget c.U e = some ei)
    (hx : opv s.T x = some (.sl b 0 n)) (hy : opv s.T y = some (.pl (.int k (i : Int)))) (hi : i < n) : QOpS c ⟨d, .indexAddr t x y, ty, pos, af, g⟩ s (.ptr b (i * ei.size)) := by
  have := s_indexAddr_sl (d := d) (ty := ty) (pos := pos) (af := af) (g := g) ht hd he hx hy hi
  rwa [Nat.zero_add] at this
theorem q_indexAddr_sl0 {t : TypeId} {x y : Operand} {b n : Nat} {k : IntKind} {i : Nat} {ti ei : TI} {e : TypeId} (ht : tget c.U t = some ti) (hd : ti.desc = .slice e) (he : tget c.U e = some ei)
    (hx : opv s.T x = some (.sl b 0 n)) (hy : opv s.T y = some (.pl (.int k (i : Int)))) (hi : i < n) : QOp c ⟨d, .indexAddr t x y, ty, pos, af, g⟩ s (.ptr b (i * ei.size)) := (s_indexAddr_sl0 ht hd he hx hy hi).later

/-! ### Loads -/
theorem q_load {t : TypeId} {x : Operand} {ax ay : AV} {cs : List AV} {ti : TI} (ht : tget c.U t = some ti) (ha : aggD ti.desc = false) (hx : opv s.T x = some ax) (hm : memAt s.H ax = some cs) (hc : cs.head? = some ay) :
    QOp c ⟨d, .load t x, ty, pos, af, g⟩ s ay := by
  intro a w β hs
  obtain ⟨b, o, hv, hb, h⟩ := hs.mem (hs.op hx) hm
  obtain ⟨u, hu, hr, _⟩ := h 0 ay (by cases cs <;> simp_all)
  refine ⟨u, hr, fun w' hbl => ?_⟩
  have := Below.cell_at hbl hu
  simp only [Nat.add_zero] at this
  simp [execOp, hv, Instr.loadAt, Instr.sureAddr, loadVar, ty_agg ht, ha, this]
theorem q_load_agg {t : TypeId} {x : Operand} {ax : AV} {cs es : List AV} {ti : TI} (ht : tget c.U t = some ti) (ha : aggD ti.desc = true) (hx : opv s.T x = some ax) (hm : memAt s.H ax = some cs) (hc : cs.take ti.size = es) (hl : es.length = ti.size) :
    QOp c ⟨d, .load t x, ty, pos, af, g⟩ s (.agg es) := by
  intro a w β hs
  obtain ⟨b, o, hv, hb, h⟩ := hs.mem (hs.op hx) hm
  have hcell : ∀ (i : Nat) (y : AV), es[i]? = some y → ∃ u, w.cell? ⟨b, o + i, none⟩ = some u ∧ VRel c.F β w y u ∧ u.oneCell' = true := fun i y hy => by
    subst hc
    have hi : i < ti.size := by rw [← hl]; exact (List.getElem?_eq_some_iff.1 hy).1
    rw [List.getElem?_take_of_lt hi] at hy
    exact h i y hy
  let us : List Value := (List.range es.length).map fun i => (w.cell? ⟨b, o + i, none⟩).getD undef
  have hus : ∀ i, i < es.length → us[i]? = w.cell? ⟨b, o + i, none⟩ := fun i hi => by
    obtain ⟨u, hu, _⟩ := hcell i es[i] (by simp [hi])
    simp [us, hi, hu]
  refine ⟨.agg us.toArray, .agg (by simp [us]) (fun i y v hy hv => ?_), fun w' hbl => ?_⟩
  · obtain ⟨u, hu, hr, _⟩ := hcell i y hy
    have hi : i < es.length := (List.getElem?_eq_some_iff.1 hy).1
    simp only [List.getElem?_toArray] at hv
    rw [hus i hi, hu] at hv
    cases hv; exact hr
  · have hlen : us.length = ti.size := by simp [us, hl]
    have := run_loadCells_list (P := c.P) w' ⟨b, o, none⟩ us (fun j v hj => by
      have hjl : j < es.length := by have := (List.getElem?_eq_some_iff.1 hj).1; simpa [us] using this
      rw [hus j hjl] at hj
      rw [a_add]
      exact Below.cell_at hbl hj)
    rw [hlen] at this
    simp [execOp, hv, Instr.loadAt, Instr.sureAddr, loadVar, ty_agg ht, ha, ty_size ht, this]
end
end Go.Abs
