/-
  PACKAGE VARIABLES THAT ARE TABLES: what is read of them. Generic over the program. Conditions: the table is among those that stay.
-/
import Derived.Test.YtebcdmfekidfoaaDoorAbsZero
set_option linter.unusedVariables false
set_option linter.unusedSimpArgs false
set_option linter.unusedSectionVars false
namespace Go.Abs
open Go Go.RowKit Go.Proofs W
variable [GTab]
/-- A table's cells, as they lie. -/
theorem GOk.at {O : Nat → Prop} {w : World} (h : GOk O w) {j g : Nat} {cs : List Value} (hj : GTab.tab[j]? = some (g, cs)) : (∃ t fr, w.heap[g]? = some (.cells cs.toArray t fr)) ∧ ¬ O g ∧ g < w.heap.size ∧ ∀ v ∈ cs, v.oneCell' = true :=
  have hm := List.mem_of_getElem? hj
  ⟨h.cell g cs hm, (h.out g cs hm).1, (h.out g cs hm).2, h.one g cs hm⟩
section
variable {c : Ctx} {s : St} {d : Option Tmp} {ty : TypeId} {pos : String} {af : Array Edge} {g : Option (Nat × Bool)}
/-- An element's address, in a table. -/
theorem s_indexGlob {t : TypeId} {x y : Operand} {j b n k : Nat} {vs : List Value} {kx : IntKind} {i : Int} {ds : List AV} {ti ei : TI} {e : TypeId} (ht : tget c.U t = some ti) (htd : ti.desc = .array n e) (he : tget c.U e = some ei) (hk : ei.size = k)
    (hx : opv s.T x = some (.pl (.pointer (some ⟨b, 0, none⟩)))) (hy : opv s.T y = some (.pl (.int kx i))) (htab : GTab.tab[j]? = some (b, vs)) (hi : 0 ≤ i ∧ i < n) (hds : ((vs.drop (i.toNat * k)).map AV.pl) = ds) : QOpS c ⟨d, .indexAddr t x y, ty, pos, af, g⟩ s (.vptr ds) := by
  intro a w β hs
  obtain ⟨⟨bt, fr, hw⟩, ho, hb, h1⟩ := hs.heap.glob.at htab
  have hu := ty_under ht
  rw [htd] at hu
  subst hds
  refine ⟨.pointer (some ⟨b, 0 + i.toNat * k, none⟩), .c (VRel.vptr_mk ho hb fun m z hz => ?_), fun w' => ?_⟩
  · rw [List.getElem?_map, List.getElem?_drop, Option.map_eq_some_iff] at hz
    obtain ⟨v, hv, rfl⟩ := hz
    refine ⟨v, ?_, .pl _, h1 v (List.mem_of_getElem? hv)⟩
    simp only [World.cell?, hw]
    simpa using hv
  · obtain ⟨m, rfl⟩ : ∃ m : Nat, i = m := ⟨i.toNat, by omega⟩
    have hi : m < n := by omega
    simp [execOp, hs.pl hx, hs.pl hy, Instr.indexAt, Instr.sureAddr, asIntOf, run_underlying hu, hi, ty_size he, hk, a_add]
end
end Go.Abs
