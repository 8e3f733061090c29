/-
  PACKAGE VARIABLES THAT ARE TABLES: what is read of them. Generic over the program. Conditions: the table is among those that stay.
-/
import Derived.Test.YtipbfnjpfmmkfaaGreatDoorAbsPart
set_option linter.unusedVariables false
set_option linter.unusedSimpArgs false
set_option linter.unusedSectionVars false
namespace Go.Abs
open Go Go.RowKit Go.Proofs W
variable [GTab]
/-- A table's cells, as they lie. -/
theorem GOk.at {O : Nat → Prop} {w : World} (h : GOk O w) {j g : Nat} {cs : List Value} (hj : GTab.tab[j]? = some (g, cs)) : (∃ t fr, w.heap[g]? = some (.cells cs.toArray t fr)) ∧ ¬ O g ∧ g < w.heap.size ∧ ∀ v ∈ cs, v.oneCell' = true :=
  have hm := List.mem_of_getElem? hj
  ⟨h.cell g cs hm, (h.out g cs hm).1, (h.out g cs hm).2, h.one g cs hm⟩
section
variable {c : Ctx} {s : St} {d : Option Tmp} {ty : TypeId} {pos : String} {af : Array Edge} {g : Option (Nat × Bool)}
/-- An element's address, in a table. -/
theorem s_indexGlob {t : TypeId} {x y : Operand} {j b n k : Nat} {vs : List Value} {kx : IntKind} {i : Int} {ds : List AV} {ti ei : TI} {e : TypeId} (ht : tget c.U t = some ti) (htd : ti.desc = .array n e) (he : tget c.U e = some ei) (hk : ei.size = k)
    (hx : opv s.T x = some (.pl (.pointer (some ⟨b, 0, none⟩)))) (hy : opv s.T y = some (.pl (.int kx i))) (htab : GTab.tab[j]? = some (b, vs)) (hi : 0 ≤ i ∧ i < n) (hds : ∀ (m : Nat) (z : AV), ds[m]? = some z → ∃ v, vs[i.toNat * k + m]? = some v ∧ z = .pl v) : QOpS c ⟨d, .indexAddr t x y, ty, pos, af, g⟩ s (.vptr ds) := by
  intro a w β hs
  obtain ⟨⟨bt, fr, hw⟩, ho, hb, h1⟩ := hs.heap.glob.at htab
  have hu := ty_under ht
  rw [htd] at hu
  refine ⟨.pointer (some ⟨b, 0 + i.toNat * k, none⟩), .c (VRel.vptr_mk ho hb fun m z hz => ?_), fun w' => ?_⟩
  · obtain ⟨v, hv, rfl⟩ := hds m z hz
    refine ⟨v, ?_, .pl _, h1 v (List.mem_of_getElem? hv)⟩
    simp only [World.cell?, hw]
    simpa using hv
  · obtain ⟨m, rfl⟩ : ∃ m : Nat, i = m := ⟨i.toNat, by omega⟩
    have hi : m < n := by omega
    simp [execOp, hs.pl hx, hs.pl hy, Instr.indexAt, Instr.sureAddr, asIntOf, run_underlying hu, hi, ty_size he, hk, a_add]
/-- A part of a slice that nobody writes, with its room cut. -/
theorem run_sliceBounds3 {P : Program} {w : World} {isS : Bool} {len cap : Nat} {lo : Option Value} {l h m : Nat} {k k' : IntKind} (hlo : (lo = none ∧ l = 0) ∨ ∃ k, lo = some (.int k (l : Int))) (hl : l ≤ h) (hm : h ≤ m) (hc : m ≤ cap) :
    (Instr.sliceBounds isS len cap lo (some (.int k (h : Int))) (some (.int k' (m : Int)))).run P w = .ok (l, h, m) w := by
  rcases hlo with ⟨rfl, rfl⟩ | ⟨k, rfl⟩ <;> simp [Instr.sliceBounds, Instr.sliceBound, asIntOf, hc, hl, hm]
theorem s_slice3_vs {t : TypeId} {x y z : Operand} {lo : Option Operand} {n : Nat} {cs ds : List AV} {ky kz : IntKind} {l h m : Nat} {ti ei : TI} {e : TypeId} (ht : tget c.U t = some ti) (htd : ti.desc = .slice e) (he : tget c.U e = some ei) (hx : opv s.T x = some (.vs n cs))
    (hlo : bnd s.T 0 lo = some (l : Int)) (hy : opv s.T y = some (.pl (.int ky (h : Int)))) (hz : opv s.T z = some (.pl (.int kz (m : Int)))) (hl : l ≤ h) (hm : h ≤ m) (hn : m ≤ n) (hds : (cs.drop (l * ei.size)).take ((h - l) * ei.size) = ds) : QOpS c ⟨d, .slice t x lo (some y) (some z), ty, pos, af, g⟩ s (.vs (h - l) ds) := by
  intro a w β hs
  have hu := ty_under ht
  rw [htd] at hu
  have h1 : (lo.map a.eval = none ∧ l = 0) ∨ ∃ k, lo.map a.eval = some (.int k (l : Int)) := by
    rcases run_bnd (P := c.P) (w := w) hs hlo with ⟨rfl, h0⟩ | ⟨q, k, rfl, hq⟩
    · exact .inl ⟨rfl, by omega⟩
    · exact .inr ⟨k, by simp [hq]⟩
  obtain ⟨A, cap, hv, hcap, hmem⟩ := (hs.op hx).vs_inv
  have hrun : ∀ w', (execOp a.eval ⟨d, .slice t x lo (some y) (some z), ty, pos, af, g⟩).run c.P w' = .ok (.value (.slice (if m = l then A else A.map (·.add (l * ei.size))) (h - l) (m - l))) w' := fun w' => by
    simp [execOp, Instr.sliceAt, Instr.slice, run_underlying hu, hv, hs.pl hy, hs.pl hz, run_sliceBounds3 h1 hl hm (Nat.le_trans hn hcap), ty_size he]
  refine ⟨_, .c ?_, fun w' => hrun w'⟩
  have hdl : ∀ (i : Nat) (y : AV), ds[i]? = some y → i < (h - l) * ei.size ∧ cs[l * ei.size + i]? = some y := fun i y hy => by
    subst hds
    have hi := (List.getElem?_eq_some_iff.1 hy).1
    simp at hi
    rw [List.getElem?_take_of_lt (by omega), List.getElem?_drop] at hy
    exact ⟨by omega, hy⟩
  by_cases hhl : h = l
  · subst hhl
    have : ds = [] := by subst hds; simp
    subst this
    rw [Nat.sub_self]
    exact .vs0
  · have hne : m ≠ l := by omega
    rw [if_neg hne]
    rcases hmem with h0 | ⟨blk, o, rfl, ho, hb, hm2⟩
    · omega
    · simp only [Option.map_some, a_add]
      refine VRel.vs_mk (by omega) ho hb fun i y hy => ?_
      rw [Nat.add_assoc]
      exact hm2 _ y (hdl i y hy).2
end
theorem shr_u8_eq (a : UInt8) (c : Nat) : (a.toNat : Int).fdiv (2 ^ c) = ((u8 ((a.toNat : Int).fdiv (2 ^ c))).toNat : Int) := by
  have h := a.toNat_lt
  have e : ((a.toNat : Int)).fdiv (2 ^ c) = ((a.toNat / 2 ^ c : Nat) : Int) := by
    rw [Int.fdiv_eq_ediv_of_nonneg _ (by exact Int.le_of_lt (Int.pow_pos (by decide)))]
    rw [Int.natCast_ediv, Int.natCast_pow]; rfl
  rw [e]
  have hlt : a.toNat / 2 ^ c < 256 := Nat.lt_of_le_of_lt (Nat.div_le_self _ _) h
  unfold u8
  rw [UInt8.toNat_ofNat']
  generalize a.toNat / 2 ^ c = q at hlt
  have : (q : Int) % 256 = (q : Int) := Int.emod_eq_of_lt (by omega) (by omega)
  rw [this]
  simp only [Int.toNat_natCast]
  omega
theorem flat_at {α : Type} {ev : α → List Value} {k : Nat} (hk : ∀ a, (ev a).length = k) : ∀ (l : List α) (i m : Nat) (hi : i < l.length), m < k → (l.flatMap ev)[i * k + m]? = (ev l[i])[m]?
  | [], i, m, hi, _ => by simp at hi
  | a :: l, 0, m, hi, hm => by
    rw [List.flatMap_cons, Nat.zero_mul, Nat.zero_add, List.getElem?_append_left (by rw [hk]; exact hm)]; rfl
  | a :: l, i + 1, m, hi, hm => by
    rw [List.flatMap_cons, List.getElem?_append_right (by rw [hk, Nat.add_mul]; omega), hk]
    have := flat_at hk l i m (by simpa using hi) hm
    rw [show (i + 1) * k + m - k = i * k + m by rw [Nat.add_mul]; omega, this]; rfl
end Go.Abs
