/-
  THE ABSTRACT STATES: values, memory, what they say of a world. Generic over the program. Conditions: none.
-/
import Derived.Below
import Derived.Deep.Draws
import Derived.Deep.Quiet
import Derived.WalkKit
import Derived.KernelRfl
set_option linter.unusedSectionVars false
namespace Go.Abs
open Go

/-- An abstract value. 'pl': the very value; 'optr' (nil or not), 'vs': memory that nobody writes, with what it holds; 'nptr' (nil or not), 'sl', 'mp', 'it': into an owned object, by its name. -/
inductive AV where
  | pl (v : Value)
  | agg (cs : List AV)
  | tup (vs : List AV)
  | fn (f : Fn) (first cap : List AV)
  | ifc (t : TypeId) (x : AV)
  | optr (z : Bool) (cs : List AV)
  | vs (n : Nat) (cs : List AV)
  | vm (ks xs : List AV)
  | nptr (z : Bool) (b off : Nat)
  | sl (b off len : Nat)
  | mp (b : Nat)
  | it (b : Nat)
  | anyp
  | junk
  | gone
  deriving Inhabited
/-- A pointer that is not nil. -/
@[match_pattern] abbrev AV.vptr (cs : List AV) : AV := .optr false cs
@[match_pattern] abbrev AV.ptr (b off : Nat) : AV := .nptr false b off

theorem AV.parts {motive : AV → Prop} (pl : ∀ v, motive (.pl v)) (agg : ∀ cs, motive (.agg cs)) (tup : ∀ vs, motive (.tup vs)) (fn : ∀ f a b, motive (.fn f a b)) (ifc : ∀ t x, motive (.ifc t x)) (vptr : ∀ cs, motive (.vptr cs)) (vs : ∀ n cs, motive (.vs n cs)) (vm : ∀ ks xs, motive (.vm ks xs))
    (ptr : ∀ b o, motive (.ptr b o)) (sl : ∀ b o n, motive (.sl b o n)) (mp : ∀ b, motive (.mp b)) (it : ∀ b, motive (.it b)) (anyp : motive .anyp) (junk : motive .junk) (gone : motive .gone) (onil : ∀ cs, motive (.optr true cs)) (pnil : ∀ b o, motive (.nptr true b o)) (x : AV) : motive x := by
  cases x with
  | pl v => exact pl v
  | agg cs => exact agg cs
  | tup cs => exact tup cs
  | fn f a b => exact fn f a b
  | ifc t x => exact ifc t x
  | optr z cs => cases z with | true => exact onil cs | false => exact vptr cs
  | vs n cs => exact vs n cs
  | vm ks xs => exact vm ks xs
  | nptr z b o => cases z with | true => exact pnil b o | false => exact ptr b o
  | sl b o n => exact sl b o n
  | mp b => exact mp b
  | it b => exact it b
  | anyp => exact anyp
  | junk => exact junk
  | gone => exact gone

/-- An owned object. 'row': closed cells, k to an element, the first fz of them read-only; 'box': open cells. -/
inductive AObj where
  | row (te : TypeId) (k fz : Nat) (cs : List AV)
  | box (tb : TypeId) (cs : List AV)
  | map (es : List (AV × AV))
  | siter (s : ByteArray) (pos : Nat)
  deriving Inhabited

/-- Where an owned object lies. -/
structure Place where
  blk : Nat
  st : Nat
  lim : Nat
  k : Nat
  nil : Bool

abbrev Emb := Nat → Option Place

def own (β : Emb) (blk : Nat) : Prop := ∃ b p, β b = some p ∧ p.nil = false ∧ p.blk = blk
/-- The blocks that an immutable value may not lie in. -/
def off (F : Nat → Prop) (β : Emb) (blk : Nat) : Prop := F blk ∨ own β blk

/-- A closed abstract value and a value. 'O': blocks that are not immutable. -/
inductive CRel (O : Nat → Prop) (w : World) : AV → Value → Prop
  | pl (v : Value) : CRel O w (.pl v) v
  | agg {cs : List AV} {vs : Array Value} (hl : cs.length = vs.size) (h : ∀ (i : Nat) (x : AV) (v : Value), cs[i]? = some x → vs[i]? = some v → CRel O w x v) : CRel O w (.agg cs) (.agg vs)
  | tup {cs : List AV} {vs : Array Value} (hl : cs.length = vs.size) (h : ∀ (i : Nat) (x : AV) (v : Value), cs[i]? = some x → vs[i]? = some v → CRel O w x v) : CRel O w (.tup cs) (.tuple vs)
  | fn {f : Fn} {cs ds : List AV} {vs us : Array Value} (hl : cs.length = vs.size) (h : ∀ (i : Nat) (x : AV) (v : Value), cs[i]? = some x → vs[i]? = some v → CRel O w x v)
      (hl2 : ds.length = us.size) (h2 : ∀ (i : Nat) (x : AV) (v : Value), ds[i]? = some x → us[i]? = some v → CRel O w x v) : CRel O w (.fn f cs ds) (.func f vs us)
  | ifc {t : TypeId} {x : AV} {v : Value} (h : CRel O w x v) : CRel O w (.ifc t x) (.iface t v)
  | vptr {cs : List AV} {b o : Nat} (f : Nat → Value) (hc : ∀ (i : Nat) (x : AV), cs[i]? = some x → w.cell? ⟨b, o + i, none⟩ = some (f i) ∧ (f i).oneCell' = true) (ho : ¬ O b) (hb : b < w.heap.size)
      (h : ∀ (i : Nat) (x : AV), cs[i]? = some x → CRel O w x (f i)) : CRel O w (.vptr cs) (.pointer (some ⟨b, o, none⟩))
  | vnil {cs : List AV} : CRel O w (.optr true cs) (.pointer none)
  | vs0 {cs : List AV} {a : Option Addr} {c : Nat} : CRel O w (.vs 0 cs) (.slice a 0 c)
  | vs {n c : Nat} {cs : List AV} {b o : Nat} (hn : n ≤ c) (f : Nat → Value) (hc : ∀ (i : Nat) (x : AV), cs[i]? = some x → w.cell? ⟨b, o + i, none⟩ = some (f i) ∧ (f i).oneCell' = true) (ho : ¬ O b) (hb : b < w.heap.size)
      (h : ∀ (i : Nat) (x : AV), cs[i]? = some x → CRel O w x (f i)) : CRel O w (.vs n cs) (.slice (some ⟨b, o, none⟩) n c)
  | vm0 : CRel O w (.vm [] []) (.map none)
  | vm {ks xs : List AV} {b : Nat} (ms : Array MapEntry) (ck : Nat) (hh : w.heap[b]? = some (.map ms ck)) (ho : ¬ O b) (hb : b < w.heap.size) (hlk : ks.length = ms.size) (hlx : xs.length = ms.size)
      (hbn : ∀ (i : Nat) (e : MapEntry), ms[i]? = some e → e.born < ck) (hd : ∀ (i j : Nat) (e e' : MapEntry), ms[i]? = some e → ms[j]? = some e' → e.born = e'.born → i = j)
      (hk : ∀ (i : Nat) (x : AV) (e : MapEntry), ks[i]? = some x → ms[i]? = some e → CRel O w x e.key) (hx : ∀ (i : Nat) (x : AV) (e : MapEntry), xs[i]? = some x → ms[i]? = some e → CRel O w x e.val) : CRel O w (.vm ks xs) (.map (some b))

/-- An abstract value and a value. -/
inductive VRel (F : Nat → Prop) (β : Emb) (w : World) : AV → Value → Prop
  | c {x : AV} {v : Value} (h : CRel (off F β) w x v) : VRel F β w x v
  | agg {cs : List AV} {vs : Array Value} (hl : cs.length = vs.size) (h : ∀ (i : Nat) (x : AV) (v : Value), cs[i]? = some x → vs[i]? = some v → VRel F β w x v) : VRel F β w (.agg cs) (.agg vs)
  | tup {cs : List AV} {vs : Array Value} (hl : cs.length = vs.size) (h : ∀ (i : Nat) (x : AV) (v : Value), cs[i]? = some x → vs[i]? = some v → VRel F β w x v) : VRel F β w (.tup cs) (.tuple vs)
  | fn {f : Fn} {cs ds : List AV} {vs us : Array Value} (hl : cs.length = vs.size) (h : ∀ (i : Nat) (x : AV) (v : Value), cs[i]? = some x → vs[i]? = some v → VRel F β w x v)
      (hl2 : ds.length = us.size) (h2 : ∀ (i : Nat) (x : AV) (v : Value), ds[i]? = some x → us[i]? = some v → VRel F β w x v) : VRel F β w (.fn f cs ds) (.func f vs us)
  | ifc {t : TypeId} {x : AV} {v : Value} (h : VRel F β w x v) : VRel F β w (.ifc t x) (.iface t v)
  | ptr {b o : Nat} {p : Place} (hp : β b = some p) (hn : p.nil = false) : VRel F β w (.ptr b o) (.pointer (some ⟨p.blk, p.st + o, none⟩))
  | pnil {b o : Nat} : VRel F β w (.nptr true b o) (.pointer none)
  | sl {b o n c : Nat} {p : Place} (hp : β b = some p) (hn : p.nil = false) (hc : n ≤ c) (hl : p.st + o + c * p.k ≤ p.lim) : VRel F β w (.sl b o n) (.slice (some ⟨p.blk, p.st + o, none⟩) n c)
  | slz {b o : Nat} {a : Option Addr} {p : Place} (hp : β b = some p) (ha : ∀ ad, a = some ad → p.nil = false ∧ ad.block = p.blk) : VRel F β w (.sl b o 0) (.slice a 0 0)
  | mp {b : Nat} {p : Place} (hp : β b = some p) (hn : p.nil = false) : VRel F β w (.mp b) (.map (some p.blk))
  | it {b : Nat} {p : Place} (hp : β b = some p) (hn : p.nil = false) : VRel F β w (.it b) (.pointer (some ⟨p.blk, 0, none⟩))
  | anyp {a : Option Addr} : VRel F β w .anyp (.pointer a)
  | junk {v : Value} (h : v.oneCell' = true) : VRel F β w .junk v
  | gone {v : Value} : VRel F β w .gone v

/-! ### Lists of slots and of objects -/
def get : List (Nat × AV) → Nat → Option AV
  | [], _ => none
  | (j, x) :: r, i => match Nat.beq j i with
    | true => some x
    | false => get r i
def hget : List (Nat × AObj) → Nat → Option AObj
  | [], _ => none
  | (j, x) :: r, i => match Nat.beq j i with
    | true => some x
    | false => hget r i
def hdel : List (Nat × AObj) → Nat → List (Nat × AObj)
  | [], _ => []
  | (j, x) :: r, i => match Nat.beq j i with
    | true => hdel r i
    | false => (j, x) :: hdel r i
def hset (H : List (Nat × AObj)) (b : Nat) (o : AObj) : List (Nat × AObj) := (b, o) :: hdel H b

theorem get_cons (j : Nat) (x : AV) (r : List (Nat × AV)) (i : Nat) : get ((j, x) :: r) i = if j = i then some x else get r i := by
  simp only [get]
  split
  · rename_i h; rw [if_pos (Nat.eq_of_beq_eq_true h)]
  · rename_i h; rw [if_neg (Nat.ne_of_beq_eq_false h)]
theorem hget_cons (j : Nat) (x : AObj) (r : List (Nat × AObj)) (i : Nat) : hget ((j, x) :: r) i = if j = i then some x else hget r i := by
  simp only [hget]
  split
  · rename_i h; rw [if_pos (Nat.eq_of_beq_eq_true h)]
  · rename_i h; rw [if_neg (Nat.ne_of_beq_eq_false h)]
theorem hget_hdel (H : List (Nat × AObj)) (b i : Nat) : hget (hdel H b) i = if b = i then none else hget H i := by
  induction H with
  | nil => simp [hdel, hget]
  | cons q r ih =>
    obtain ⟨j, x⟩ := q
    simp only [hdel]
    split
    · rename_i h
      have := Nat.eq_of_beq_eq_true h
      rw [ih, hget_cons]
      by_cases e : b = i
      · simp [e]
      · rw [if_neg e, if_neg e, if_neg (by omega)]
    · rename_i h
      have := Nat.ne_of_beq_eq_false h
      rw [hget_cons, hget_cons, ih]
      by_cases e : b = i
      · rw [if_pos e, if_pos e, if_neg (by omega)]
      · rw [if_neg e, if_neg e]
theorem hget_hset (H : List (Nat × AObj)) (b : Nat) (o : AObj) (i : Nat) : hget (hset H b o) i = if b = i then some o else hget H i := by
  rw [hset, hget_cons, hget_hdel]
  split <;> simp_all

/-! ### Package variables that stay as they were laid -/
/-- Their blocks and cells. -/
class GTab where
  tab : List (Nat × List Value)
  ints : List Nat := []
variable [GTab]
structure GOk (O : Nat → Prop) (w : World) : Prop where
  out : ∀ g cs, (g, cs) ∈ GTab.tab → ¬ O g ∧ g < w.heap.size
  cell : ∀ g cs, (g, cs) ∈ GTab.tab → ∃ t fr, w.heap[g]? = some (.cells cs.toArray t fr)
  one : ∀ g cs, (g, cs) ∈ GTab.tab → ∀ v ∈ cs, v.oneCell' = true
  int : ∀ g, g ∈ GTab.ints → ¬ O g ∧ g < w.heap.size ∧ ∃ n t fr, w.heap[g]? = some (.cells #[.int .i64 n] t fr)
/-! ### What an owned object says of the world -/
def CellsAt (w : World) (blk : Nat) (te : TypeId) (c : Array Value) (fr : Nat × Nat) : Prop := w.heap[blk]? = some (.cells c te fr)

def ORel (F : Nat → Prop) (β : Emb) (w : World) (p : Place) : AObj → Prop
  | .row te k fz cs => p.k = k ∧ (p.nil = true → cs = []) ∧ (p.nil = false → ∃ c fr, CellsAt w p.blk te c fr ∧ p.lim = c.size ∧ p.st + cs.length ≤ c.size ∧
      (∀ (i : Nat) (x : AV), cs[i]? = some x → ∃ v, c[p.st + i]? = some v ∧ CRel (off F β) w x v ∧ v.oneCell' = true) ∧ (∀ o, o < c.size → fr.1 ≤ o → o < fr.2 → o < p.st + fz))
  | .box tb cs => p.nil = false ∧ ∃ c fr, CellsAt w p.blk tb c fr ∧ (p.st = 0 ∧ cs.length = c.size) ∧
      (∀ (i : Nat) (x : AV), cs[i]? = some x → ∃ v, c[p.st + i]? = some v ∧ VRel F β w x v ∧ v.oneCell' = true) ∧ (∀ o, o < c.size → fr.1 ≤ o → ¬ o < fr.2)
  | .map es => p.nil = false ∧ ∃ (ms : Array MapEntry) (clock : Nat), w.heap[p.blk]? = some (.map ms clock) ∧ es.length = ms.size ∧
      (∀ (i : Nat) (x : AV × AV) (e : MapEntry), es[i]? = some x → ms[i]? = some e → CRel (off F β) w x.1 e.key ∧ CRel (off F β) w x.2 e.val ∧ e.born < clock) ∧
      (∀ (i j : Nat) (e e' : MapEntry), ms[i]? = some e → ms[j]? = some e' → e.born = e'.born → i = j)
  | .siter s pos => p.nil = false ∧ w.heap[p.blk]? = some (.stringIter s pos)

structure HRel (F : Nat → Prop) (β : Emb) (H : List (Nat × AObj)) (w : World) : Prop where
  obj : ∀ b o, hget H b = some o → ∃ p, β b = some p ∧ ORel F β w p o
  dom : ∀ b p, β b = some p → ∃ o, hget H b = some o
  inj : ∀ b b' p p', β b = some p → β b' = some p' → p.nil = false → p'.nil = false → p.blk = p'.blk → b = b'
  fresh : ∀ blk, F blk → blk < w.heap.size
  apart : ∀ b p, β b = some p → p.nil = false → ¬ F p.blk
  glob : GOk (off F β) w

/-- What a stretch of the run leaves: nothing has turned but what is owned, and what is owned was so, or is new. -/
structure Keeps (β : Emb) (w : World) (β' : Emb) (w' : World) : Prop where
  os : w'.os = w.os
  tape : w'.tape = w.tape ∧ w.drawn ≤ w'.drawn
  output : w'.output = w.output
  size : w.heap.size ≤ w'.heap.size
  block : ∀ k, k < w.heap.size → ¬ own β k → w'.heap[k]? = w.heap[k]?
  grows : ∀ k, own β' k → own β k ∨ w.heap.size ≤ k

theorem Keeps.refl (β : Emb) (w : World) : Keeps β w β w := ⟨rfl, ⟨rfl, Nat.le_refl _⟩, rfl, Nat.le_refl _, fun _ _ _ => rfl, fun _ h => .inl h⟩
theorem Keeps.trans {β1 β2 β3 : Emb} {w1 w2 w3 : World} (h : Keeps β1 w1 β2 w2) (k : Keeps β2 w2 β3 w3) : Keeps β1 w1 β3 w3 :=
  ⟨k.os.trans h.os, ⟨k.tape.1.trans h.tape.1, Nat.le_trans h.tape.2 k.tape.2⟩, k.output.trans h.output, Nat.le_trans h.size k.size,
   fun i hi hn => (k.block i (Nat.lt_of_lt_of_le hi h.size) (fun ho => (h.grows i ho).elim hn (by omega))).trans (h.block i hi hn),
   fun i hi => (k.grows i hi).elim (fun ho => h.grows i ho) (fun ho => .inr (Nat.le_trans h.size ho))⟩
theorem Keeps.below {β β' : Emb} {w w' : World} (h : Keeps β w β' w') (hn : ∀ k, ¬ own β k) : RowKit.Below w.heap.size w w' :=
  ⟨h.os, h.tape.1, h.output, h.size, fun k hk => h.block k hk (hn k)⟩
/-- What stood is as it was, and no draw is undone. -/
def BelowD (w w' : World) : Prop := RowKit.Below w.heap.size w w' ∧ w.drawn ≤ w'.drawn
theorem BelowD.refl (w : World) : BelowD w w := ⟨RowKit.Below.refl _ _, Nat.le_refl _⟩
theorem Keeps.belowD {β β' : Emb} {w w' : World} (h : Keeps β w β' w') (hn : ∀ k, ¬ own β k) : BelowD w w' := ⟨h.below hn, h.tape.2⟩
theorem Keeps.of_below {β : Emb} {w w' : World} (h : BelowD w w') : Keeps β w β w' :=
  ⟨h.1.os, ⟨h.1.tape, h.2⟩, h.1.output, h.1.size, fun k hk _ => h.1.block k hk, fun _ h => .inl h⟩

/-! ### Relations are carried on -/
theorem cell?_same {w w' : World} {b : Nat} (h : w'.heap[b]? = w.heap[b]?) (o : Nat) : w'.cell? ⟨b, o, none⟩ = w.cell? ⟨b, o, none⟩ := by
  simp only [World.cell?, h]

theorem CRel.mono {O O' : Nat → Prop} {w w' : World} (hs : w.heap.size ≤ w'.heap.size) (hO : ∀ b, O' b → O b ∨ w.heap.size ≤ b) (hw : ∀ b, b < w.heap.size → ¬ O b → w'.heap[b]? = w.heap[b]?)
    {x : AV} {v : Value} (h : CRel O w x v) : CRel O' w' x v := by
  induction h with
  | pl v => exact .pl v
  | agg hl _ ih => exact .agg hl ih
  | tup hl _ ih => exact .tup hl ih
  | fn hl _ hl2 _ ih ih2 => exact .fn hl ih hl2 ih2
  | ifc _ ih => exact .ifc ih
  | vptr f hc ho hb _ ih =>
    exact .vptr f (fun i x hx => ⟨(cell?_same (hw _ hb ho) _).trans (hc i x hx).1, (hc i x hx).2⟩) (fun h => (hO _ h).elim ho (by omega)) (Nat.lt_of_lt_of_le hb hs) ih
  | vnil => exact .vnil
  | vs0 => exact .vs0
  | vs hn f hc ho hb _ ih =>
    exact .vs hn f (fun i x hx => ⟨(cell?_same (hw _ hb ho) _).trans (hc i x hx).1, (hc i x hx).2⟩) (fun h => (hO _ h).elim ho (by omega)) (Nat.lt_of_lt_of_le hb hs) ih
  | vm0 => exact .vm0
  | vm ms ck hh ho hb hlk hlx hbn hd _ _ ihk ihx => exact .vm ms ck ((hw _ hb ho).trans hh) (fun h => (hO _ h).elim ho (by omega)) (Nat.lt_of_lt_of_le hb hs) hlk hlx hbn hd ihk ihx

theorem GOk.mono {O O' : Nat → Prop} {w w' : World} (h : GOk O w) (hs : w.heap.size ≤ w'.heap.size) (hO : ∀ b, O' b → O b ∨ w.heap.size ≤ b) (hw : ∀ b, b < w.heap.size → ¬ O b → w'.heap[b]? = w.heap[b]?) : GOk O' w' where
  out := fun g cs hg => ⟨fun ho => (hO g ho).elim (h.out g cs hg).1 (fun hl => by have := (h.out g cs hg).2; omega), Nat.lt_of_lt_of_le (h.out g cs hg).2 hs⟩
  cell := fun g cs hg => let ⟨t, fr, ht⟩ := h.cell g cs hg; ⟨t, fr, (hw g (h.out g cs hg).2 (h.out g cs hg).1).trans ht⟩
  one := h.one
  int := fun g hg => let ⟨h1, h2, n, t, fr, h3⟩ := h.int g hg; ⟨fun ho => (hO g ho).elim h1 (fun hl => by omega), Nat.lt_of_lt_of_le h2 hs, n, t, fr, (hw g h2 h1).trans h3⟩
theorem GOk.nil {O : Nat → Prop} {w : World} (h : GTab.tab = []) (hi : GTab.ints = []) : GOk O w where
  out := fun g cs hg => by rw [h] at hg; cases hg
  cell := fun g cs hg => by rw [h] at hg; cases hg
  one := fun g cs hg => by rw [h] at hg; cases hg
  int := fun g hg => by rw [hi] at hg; cases hg
/-- Values over a larger embedding, in a later world. -/
theorem VRel.mono {F : Nat → Prop} {β β' : Emb} {w w' : World} (hβ : ∀ b p, β b = some p → β' b = some p) (hs : w.heap.size ≤ w'.heap.size)
    (hO : ∀ b, off F β' b → off F β b ∨ w.heap.size ≤ b) (hw : ∀ b, b < w.heap.size → ¬ off F β b → w'.heap[b]? = w.heap[b]?) {x : AV} {v : Value} (h : VRel F β w x v) : VRel F β' w' x v := by
  induction h with
  | c h => exact .c (h.mono hs hO hw)
  | agg hl _ ih => exact .agg hl ih
  | tup hl _ ih => exact .tup hl ih
  | fn hl _ hl2 _ ih ih2 => exact .fn hl ih hl2 ih2
  | ifc _ ih => exact .ifc ih
  | ptr hp hn => exact .ptr (hβ _ _ hp) hn
  | pnil => exact .pnil
  | sl hp hn hc hl => exact .sl (hβ _ _ hp) hn hc hl
  | slz hp ha => exact .slz (hβ _ _ hp) ha
  | mp hp hn => exact .mp (hβ _ _ hp) hn
  | it hp hn => exact .it (hβ _ _ hp) hn
  | anyp => exact .anyp
  | junk h => exact .junk h
  | gone => exact .gone

/-! ### A value that names an object that is let go -/
mutual
def AV.kill (b : Nat) : AV → AV
  | .agg cs => .agg (AV.killL b cs)
  | .tup cs => .tup (AV.killL b cs)
  | .fn f cs ds => .fn f (AV.killL b cs) (AV.killL b ds)
  | .ifc t x => .ifc t (AV.kill b x)
  | .nptr z b' o => match Nat.beq b' b with | true => .junk | false => .nptr z b' o
  | .sl b' o n => match Nat.beq b' b with | true => .junk | false => .sl b' o n
  | .mp b' => match Nat.beq b' b with | true => .junk | false => .mp b'
  | .it b' => match Nat.beq b' b with | true => .junk | false => .it b'
  | x => x
def AV.killL (b : Nat) : List AV → List AV
  | [] => []
  | x :: r => AV.kill b x :: AV.killL b r
end
theorem AV.killL_length (b : Nat) : ∀ l, (AV.killL b l).length = l.length
  | [] => rfl
  | x :: r => by simp [AV.killL, AV.killL_length b r]
theorem AV.killL_get (b : Nat) : ∀ (l : List AV) (i : Nat) (y : AV), (AV.killL b l)[i]? = some y → ∃ x, l[i]? = some x ∧ y = x.kill b
  | [], i, y, h => by simp [AV.killL] at h
  | x :: r, 0, y, h => by simp [AV.killL] at h; exact ⟨x, rfl, h.symm⟩
  | x :: r, i + 1, y, h => by
    simp only [AV.killL, List.getElem?_cons_succ] at h
    simpa using AV.killL_get b r i y h
def killT (b : Nat) : List (Nat × AV) → List (Nat × AV)
  | [] => []
  | (i, x) :: r => (i, x.kill b) :: killT b r
def AObj.kill (b : Nat) : AObj → AObj
  | .box tb cs => .box tb (AV.killL b cs)
  | o => o
def killH (b : Nat) : List (Nat × AObj) → List (Nat × AObj)
  | [] => []
  | (i, o) :: r => match Nat.beq i b with
    | true => killH b r
    | false => (i, o.kill b) :: killH b r
theorem get_killT (b : Nat) (T : List (Nat × AV)) (i : Nat) : get (killT b T) i = (get T i).map (AV.kill b) := by
  induction T with
  | nil => rfl
  | cons q r ih =>
    obtain ⟨j, x⟩ := q
    simp only [killT, get_cons, ih]
    split <;> rfl
theorem hget_killH (b : Nat) (H : List (Nat × AObj)) (i : Nat) : hget (killH b H) i = if b = i then none else (hget H i).map (AObj.kill b) := by
  induction H with
  | nil => simp [killH, hget]
  | cons q r ih =>
    obtain ⟨j, x⟩ := q
    simp only [killH]
    split
    · rename_i h
      have := Nat.eq_of_beq_eq_true h
      rw [ih, hget_cons]
      by_cases e : b = i
      · simp [e]
      · rw [if_neg e, if_neg e, if_neg (by omega)]
    · rename_i h
      have := Nat.ne_of_beq_eq_false h
      rw [hget_cons, hget_cons, ih]
      by_cases e : b = i
      · rw [if_pos e, if_pos e, if_neg (by omega)]
      · rw [if_neg e, if_neg e]
        split <;> rfl

theorem VRel.kill {F : Nat → Prop} {β β' : Emb} {w w' : World} {b0 : Nat} (hβ : ∀ b p, b ≠ b0 → β b = some p → β' b = some p) (hs : w.heap.size ≤ w'.heap.size)
    (hO : ∀ b, off F β' b → off F β b ∨ w.heap.size ≤ b) (hw : ∀ b, b < w.heap.size → ¬ off F β b → w'.heap[b]? = w.heap[b]?) {x : AV} {v : Value} (h : VRel F β w x v) : VRel F β' w' (x.kill b0) v := by
  induction h with
  | @c x v h =>
    have hc : ∀ {y u}, CRel (off F β) w y u → VRel F β' w' (y.kill b0) u := by
      intro y u hy
      induction hy with
      | pl v => exact .c (.pl v)
      | agg hl _ ih => exact .agg (by rw [AV.killL_length]; exact hl) (fun i x v hx hv => by obtain ⟨y, hy, rfl⟩ := AV.killL_get _ _ _ _ hx; exact ih i y v hy hv)
      | tup hl _ ih => exact .tup (by rw [AV.killL_length]; exact hl) (fun i x v hx hv => by obtain ⟨y, hy, rfl⟩ := AV.killL_get _ _ _ _ hx; exact ih i y v hy hv)
      | fn hl _ hl2 _ ih ih2 =>
        exact .fn (by rw [AV.killL_length]; exact hl) (fun i x v hx hv => by obtain ⟨y, hy, rfl⟩ := AV.killL_get _ _ _ _ hx; exact ih i y v hy hv)
          (by rw [AV.killL_length]; exact hl2) (fun i x v hx hv => by obtain ⟨y, hy, rfl⟩ := AV.killL_get _ _ _ _ hx; exact ih2 i y v hy hv)
      | ifc _ ih => exact .ifc ih
      | vptr f hc ho hb h ih => exact .c ((CRel.vptr f hc ho hb h).mono hs hO hw)
      | vnil => exact .c .vnil
      | vs0 => exact .c .vs0
      | vs hn f hc ho hb h ih => exact .c ((CRel.vs hn f hc ho hb h).mono hs hO hw)
      | vm0 => exact .c .vm0
      | vm ms ck hh ho hb hlk hlx hbn hd hk hx _ _ => exact .c ((CRel.vm ms ck hh ho hb hlk hlx hbn hd hk hx).mono hs hO hw)
    exact hc h
  | agg hl _ ih => exact .agg (by rw [AV.killL_length]; exact hl) (fun i x v hx hv => by obtain ⟨y, hy, rfl⟩ := AV.killL_get _ _ _ _ hx; exact ih i y v hy hv)
  | tup hl _ ih => exact .tup (by rw [AV.killL_length]; exact hl) (fun i x v hx hv => by obtain ⟨y, hy, rfl⟩ := AV.killL_get _ _ _ _ hx; exact ih i y v hy hv)
  | fn hl _ hl2 _ ih ih2 =>
    exact .fn (by rw [AV.killL_length]; exact hl) (fun i x v hx hv => by obtain ⟨y, hy, rfl⟩ := AV.killL_get _ _ _ _ hx; exact ih i y v hy hv)
      (by rw [AV.killL_length]; exact hl2) (fun i x v hx hv => by obtain ⟨y, hy, rfl⟩ := AV.killL_get _ _ _ _ hx; exact ih2 i y v hy hv)
  | ifc _ ih => exact .ifc ih
  | @ptr b o p hp hn =>
    simp only [AV.kill]
    split
    · exact .junk rfl
    · rename_i h; exact .ptr (hβ _ _ (Nat.ne_of_beq_eq_false h) hp) hn
  | @pnil b o =>
    simp only [AV.kill]
    split
    · exact .junk rfl
    · exact .pnil
  | @sl b o n c p hp hn hc hl =>
    simp only [AV.kill]
    split
    · exact .junk rfl
    · rename_i h; exact .sl (hβ _ _ (Nat.ne_of_beq_eq_false h) hp) hn hc hl
  | @slz b o a p hp ha =>
    simp only [AV.kill]
    split
    · exact .junk rfl
    · rename_i h; exact .slz (hβ _ _ (Nat.ne_of_beq_eq_false h) hp) ha
  | @mp b p hp hn =>
    simp only [AV.kill]
    split
    · exact .junk rfl
    · rename_i h; exact .mp (hβ _ _ (Nat.ne_of_beq_eq_false h) hp) hn
  | @it b p hp hn =>
    simp only [AV.kill]
    split
    · exact .junk rfl
    · rename_i h; exact .it (hβ _ _ (Nat.ne_of_beq_eq_false h) hp) hn
  | anyp => exact .anyp
  | junk h => exact .junk h
  | gone => exact .gone

end Go.Abs
