/-
  FROM A ROW's READING OF ITS ARGUMENTS TO ABSTRACT VALUES, AND BACK. Generic over the program. Conditions: none.
-/
import Derived.Test.YtipbfnjpfmmkfaaGreatDoorAbsWalk
import Derived.ProofKit
import Derived.OpenShut
import Derived.ChangeStays
set_option linter.unusedVariables false
set_option linter.unusedSectionVars false
namespace Go.Abs
open Go Go.ChangeShapes Go.WideShapes Go.ChangeAt Go.RowKit
variable [GTab]

/-- Cells and what they hold, nothing of it owned. -/
def CRows (w : World) (xs : List AV) (cs : List Value) : Prop := xs.length = cs.length ∧ ∀ (i : Nat) (x : AV), xs[i]? = some x → ∃ v, cs[i]? = some v ∧ CRel (fun _ => False) w x v ∧ v.oneCell' = true
theorem CRows.one {w : World} {x : AV} {v : Value} (h : CRel (fun _ => False) w x v) (h1 : v.oneCell' = true) : CRows w [x] [v] :=
  ⟨rfl, fun i y hy => by
    cases i with
    | zero => simp at hy; subst hy; exact ⟨v, rfl, h, h1⟩
    | succ i => simp at hy⟩
theorem CRows.append {w : World} {ys zs : List AV} {cs ds : List Value} (h : CRows w ys cs) (k : CRows w zs ds) : CRows w (ys ++ zs) (cs ++ ds) :=
  ⟨by simp [h.1, k.1], fun i y hy => by
    by_cases hi : i < ys.length
    · rw [List.getElem?_append_left hi] at hy
      rw [List.getElem?_append_left (by rw [← h.1]; exact hi)]
      exact h.2 i y hy
    · rw [List.getElem?_append_right (by omega)] at hy
      rw [List.getElem?_append_right (by rw [← h.1]; omega), ← h.1]
      exact k.2 _ y hy⟩

/-- Each reading of the type is one of these. -/
structure Rd (P : Program) (t : TypeId) {α : Type} (enc : α → List AV) (ok : α → Prop) : Prop where
  size : ∀ a, (enc a).length = P.cellsOf t
  read : ∀ {H : Type} (e : TypeId × Value → H) (w : World) (base : Nat) (sp : Nat → Bool) (held : Bool) (n : Nat) (cs : List Value) (x : DataW H × List MemPlace), DataW.trod e P w base sp held n t cs = some x → ∃ a : α, ok a ∧ CRows w (enc a) cs

theorem Rd.bool {P : Program} {t : TypeId} (ht : P.underlying t = some .bool) (hs : P.cellsOf t = 1) : Rd P t (fun b : Bool => [.pl (.bool b)]) (fun _ => True) where
  size := fun _ => hs.symm
  read := fun e w base sp held n cs x h => by
    obtain ⟨b, rfl, _⟩ := DataW.trod_bool ht h
    exact ⟨b, trivial, .one (.pl _) rfl⟩
theorem Rd.int {P : Program} {t : TypeId} {k : IntKind} (ht : P.underlying t = some (.int k)) (hs : P.cellsOf t = 1) : Rd P t (fun n : Int => [.pl (.int k n)]) (fun n => (Lit.int k n).wf = true) where
  size := fun _ => hs.symm
  read := fun e w base sp held n cs x h => by
    obtain ⟨b, rfl, _, hw⟩ := DataW.trod_int ht h
    exact ⟨b, hw, .one (.pl _) rfl⟩
theorem Rd.byte {P : Program} {t : TypeId} (ht : P.underlying t = some (.int .u8)) (hs : P.cellsOf t = 1) : Rd P t (fun b : UInt8 => [.pl (.int .u8 (b.toNat : Int))]) (fun _ => True) where
  size := fun _ => hs.symm
  read := fun e w base sp held n cs x h => by
    obtain ⟨b, rfl, _, hw⟩ := DataW.trod_int ht h
    have hb : 0 ≤ b ∧ b ≤ 255 := by simpa [Lit.wf, IntKind.min, IntKind.max, IntKind.signed, IntKind.bits] using hw
    refine ⟨UInt8.ofNat b.toNat, trivial, ?_⟩
    have : ((UInt8.ofNat b.toNat).toNat : Int) = b := by
      rw [UInt8.toNat_ofNat']; omega
    rw [this]
    exact .one (.pl _) rfl
theorem Rd.string {P : Program} {t : TypeId} (ht : P.underlying t = some .string) (hs : P.cellsOf t = 1) : Rd P t (fun s : ByteArray => [.pl (.string s)]) (fun s => s.size ≤ maxLen) where
  size := fun _ => hs.symm
  read := fun e w base sp held n cs x h => by
    obtain ⟨b, rfl, _, hw⟩ := DataW.trod_string ht h
    exact ⟨b, hw, .one (.pl _) rfl⟩

theorem flat_get {α : Type} {enc : α → List AV} {k : Nat} (hk : ∀ x, (enc x).length = k) : ∀ (l : List α) (j : Nat) (x : AV), (l.flatMap enc)[j]? = some x → ∃ (i r : Nat) (hi : i < l.length), r < k ∧ j = i * k + r ∧ (enc l[i])[r]? = some x
  | [], j, x, h => by simp at h
  | a :: l, j, x, h => by
    rw [List.flatMap_cons] at h
    by_cases hj : j < k
    · rw [List.getElem?_append_left (by rw [hk]; exact hj)] at h
      exact ⟨0, j, by simp, hj, by simp, h⟩
    · rw [List.getElem?_append_right (by rw [hk]; omega), hk] at h
      obtain ⟨i, r, hi, hr, he, hx⟩ := flat_get hk l _ x h
      exact ⟨i + 1, r, by simpa using hi, hr, by rw [Nat.add_mul]; omega, by simpa using hx⟩

theorem Rd.slice {P : Program} {t e : TypeId} {α : Type} {enc : α → List AV} {ok : α → Prop} (hR : Rd P e enc ok) (ht : P.underlying t = some (.slice e)) (hs : P.cellsOf t = 1) (hpos : 0 < P.cellsOf e) :
    Rd P t (fun l : List α => [.vs l.length (l.flatMap enc)]) (fun l => l.length ≤ maxLen ∧ ∀ a ∈ l, ok a) where
  size := fun _ => hs.symm
  read := fun en w base sp held n cs x h => by
    rcases DataW.trod_slice ht h with ⟨rfl, _⟩ | ⟨a, len, cap, elems, rest, m, _, rfl, _, _, hlc, hcm, hel, hall, _, _⟩
    · exact ⟨[], ⟨by simp, by simp⟩, .one .vs0 rfl⟩
    · have hget : ∀ i : _root_.Fin len, ∃ y : α, ok y ∧ ∃ cs', w.cells? base (a.add (i.1 * P.cellsOf e)) (P.cellsOf e) = some cs' ∧ CRows w (enc y) cs' := fun i => by
        have h1 := hall i.1 i.2
        have hlt : i.1 < elems.length := by rw [hel]; exact i.2
        rw [List.getElem?_eq_getElem hlt, Option.bind_eq_some_iff] at h1
        obtain ⟨cs', hc, htr⟩ := h1
        obtain ⟨y, hy, hr⟩ := hR.read en w base sp held m cs' _ htr
        exact ⟨y, hy, cs', hc, hr⟩
      obtain ⟨l, hl, hli⟩ : ∃ l : List α, l.length = len ∧ ∀ (i : Nat) (hi : i < l.length), ok l[i] ∧ ∃ cs', w.cells? base (a.add (i * P.cellsOf e)) (P.cellsOf e) = some cs' ∧ CRows w (enc l[i]) cs' := by
        refine ⟨List.ofFn fun i : _root_.Fin len => Classical.choose (hget i), by simp, fun i hi => ?_⟩
        have := Classical.choose_spec (hget ⟨i, by simpa using hi⟩)
        simpa using this
      refine ⟨l, ⟨by rw [hl]; omega, fun y hy => by obtain ⟨i, hi, rfl⟩ := List.getElem_of_mem hy; exact (hli i hi).1⟩, ?_⟩
      rw [hl]
      have hcell : ∀ (j : Nat) (x : AV), (l.flatMap enc)[j]? = some x → ∃ u, w.cell? (a.add j) = some u ∧ CRel (fun _ => False) w x u ∧ u.oneCell' = true := fun j x hx => by
        obtain ⟨i, r, hi, hr, rfl, hx2⟩ := flat_get hR.size l j x hx
        obtain ⟨_, cs', hc, hrow⟩ := hli i hi
        obtain ⟨u, hu, hrel, h1⟩ := hrow.2 r x hx2
        obtain ⟨_, _, hcl⟩ := World.cells?_some hc
        refine ⟨u, ?_, hrel, h1⟩
        rw [← hu, ← hcl r hr]
        congr 1
        by_cases h0 : i * P.cellsOf e = 0 <;> by_cases h1 : r = 0 <;> simp [Addr.add, h0, h1, Nat.add_assoc]
      by_cases hn : len = 0
      · subst hn
        obtain rfl : l = [] := List.eq_nil_of_length_eq_zero hl
        exact .one .vs0 rfl
      · have h0l : 0 < l.length := by omega
        have hne : (enc l[0]).length = P.cellsOf e := hR.size _
        obtain ⟨x0, hx0⟩ : ∃ x, (l.flatMap enc)[0]? = some x := by
          match hl0 : l, h0l with
          | y :: r, _ =>
            match he : enc y, hR.size y with
            | z :: _, _ => exact ⟨z, by simp [he]⟩
            | [], h => simp at h; omega
        obtain ⟨u0, hu0, _⟩ := hcell 0 x0 hx0
        have ha0 : a.add 0 = a := by simp [Addr.add]
        rw [ha0] at hu0
        obtain ⟨b, o, sp'⟩ := a
        have hsp : sp' = none := by
          unfold World.cell? at hu0
          split at hu0
          · cases sp' with
            | none => rfl
            | some k => simp at hu0
          · cases hu0
        subst hsp
        have hb : b < w.heap.size := World.block_lt_of_cell? w _ hu0
        let f : Nat → Value := fun j => (w.cell? ⟨b, o + j, none⟩).getD undef
        have hf : ∀ (j : Nat) (x : AV), (l.flatMap enc)[j]? = some x → w.cell? ⟨b, o + j, none⟩ = some (f j) ∧ CRel (fun _ => False) w x (f j) ∧ (f j).oneCell' = true := fun j x hx => by
          obtain ⟨u, hu, hr, h1⟩ := hcell j x hx
          rw [Addr.add_lit] at hu
          have : f j = u := by simp [f, hu]
          rw [this]; exact ⟨hu, hr, h1⟩
        exact .one (.vs hlc f (fun j x hx => ⟨(hf j x hx).1, (hf j x hx).2.2⟩) (fun h => h) hb (fun j x hx => (hf j x hx).2.1)) rfl

/-! ### Structs -/
structure RdF (P : Program) (fs : List Field) (off : Nat) {α : Type} (enc : α → List AV) (ok : α → Prop) (k : Nat) : Prop where
  size : ∀ a, (enc a).length = k
  read : ∀ {H : Type} (e : TypeId × Value → H) (w : World) (base : Nat) (sp : Nat → Bool) (held : Bool) (n : Nat) (cs : List Value) (xs : List (DataW H × List MemPlace)), xs.length = fs.length → cs.length = off + k →
    (∀ (i : Nat) (f : Field), fs[i]? = some f → DataW.trod e P w base sp held n f.type ((cs.drop f.offset).take (P.cellsOf f.type)) = xs[i]?) → ∃ a : α, ok a ∧ CRows w (enc a) (cs.drop off)
theorem RdF.nil (P : Program) (off : Nat) : RdF P [] off (fun _ : Unit => []) (fun _ => True) 0 where
  size := fun _ => rfl
  read := fun e w base sp held n cs xs hl hcs h => ⟨(), trivial, by simp [hcs], by simp⟩
theorem RdF.cons {P : Program} {f : Field} {fs : List Field} {off k m : Nat} {α β : Type} {enc : α → List AV} {ok : α → Prop} {enc' : β → List AV} {ok' : β → Prop} (h1 : Rd P f.type enc ok) (ho : f.offset = off) (hk : P.cellsOf f.type = k) (h2 : RdF P fs (off + k) enc' ok' m) :
    RdF P (f :: fs) off (fun a : α × β => enc a.1 ++ enc' a.2) (fun a => ok a.1 ∧ ok' a.2) (k + m) where
  size := fun a => by rw [List.length_append, h1.size, h2.size, hk]
  read := fun e w base sp held n cs xs hl hcs h => by
    match xs, hl with
    | x :: xs, hl =>
      have hx := h 0 f rfl
      rw [ho, hk] at hx
      obtain ⟨a, ha, hra⟩ := h1.read e w base sp held n _ _ hx
      obtain ⟨b, hb, hrb⟩ := h2.read e w base sp held n cs xs (by simpa using hl) (by omega) (fun i g hg => by simpa using h (i + 1) g (by simpa using hg))
      refine ⟨(a, b), ⟨ha, hb⟩, ?_⟩
      have : cs.drop off = (cs.drop off).take k ++ cs.drop (off + k) := by rw [← List.drop_drop, List.take_append_drop]
      rw [this]
      exact hra.append hrb
theorem Rd.struct {P : Program} {t : TypeId} {fs : Array Field} {α : Type} {enc : α → List AV} {ok : α → Prop} {k : Nat} (ht : P.underlying t = some (.struct fs)) (hk : P.cellsOf t = k) (h : RdF P fs.toList 0 enc ok k) : Rd P t enc ok where
  size := fun a => by rw [h.size, hk]
  read := fun e w base sp held n cs x hx => by
    obtain ⟨xs, m, _, _, hl, hxl, hall⟩ := DataW.trod_struct ht hx
    obtain ⟨a, ha, hr⟩ := h.read e w base sp held m cs xs (by simpa using hxl) (by rw [hl, hk]; omega) (fun i f hf => hall i f (by simpa using hf))
    exact ⟨a, ha, by simpa using hr⟩
theorem Rd.map {P : Program} {t : TypeId} {α β : Type} {enc : α → List AV} {ok : α → Prop} {enc' : β → List AV} {ok' : β → Prop} (h : Rd P t enc ok) (g : α → β) (f : β → α) (hg : ∀ a, ok a → enc' (g a) = enc a ∧ ok' (g a)) (hf : ∀ b, enc' b = enc (f b)) : Rd P t enc' ok' where
  size := fun b => by rw [hf, h.size]
  read := fun e w base sp held n cs x hx => by
    obtain ⟨a, ha, hr⟩ := h.read e w base sp held n cs x hx
    exact ⟨g a, (hg a ha).2, by rw [(hg a ha).1]; exact hr⟩
end Go.Abs
