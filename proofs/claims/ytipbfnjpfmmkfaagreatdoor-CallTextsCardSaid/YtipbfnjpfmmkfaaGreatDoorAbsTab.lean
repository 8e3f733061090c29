/-
  A TABLE OF TYPES, row by row. Generic over the program. Conditions: none.
-/
import Derived.Test.YtipbfnjpfmmkfaaGreatDoorAbsOps2
set_option linter.unusedSectionVars false
namespace Go.Abs
open Go
variable [GTab]
def TabOk (P : Program) (U : List (Nat × TI)) : Prop := ∀ t i, tget U t = some i → P.underlying t = some i.desc ∧ ∃ info, P.info? t = some info ∧ info.size = i.size ∧ info.bytes = i.bytes ∧ info.zero = some i.zero
theorem TabOk.nil (P : Program) : TabOk P [] := fun _ _ h => by cases h
theorem TabOk.cons {P : Program} {U : List (Nat × TI)} {t : Nat} {d : TypeDesc} {sz by_ : Nat} {z : Value} (h1 : P.underlying t = some d) (h2 : (P.info? t).map (fun i => (i.size, i.bytes, i.zero)) = some (sz, by_, some z)) (h : TabOk P U) :
    TabOk P ((t, ⟨d, sz, by_, z⟩) :: U) := by
  intro t' i hi
  simp only [tget] at hi
  split at hi
  · rename_i hb
    obtain rfl := Nat.eq_of_beq_eq_true hb
    cases hi
    refine ⟨h1, ?_⟩
    obtain ⟨info, hinfo, he⟩ := Option.map_eq_some_iff.1 h2
    simp only [Prod.mk.injEq] at he
    exact ⟨info, hinfo, he.1, he.2.1, he.2.2⟩
  · exact h t' i hi
end Go.Abs
namespace Go.Abs
open Go
variable [GTab]
section
variable {c : Ctx} {s : St} {d : Option Tmp} {ty : TypeId} {pos : String} {af : Array Edge} {g : Option (Nat × Bool)}
theorem s_indexAddr_vsI {t : TypeId} {x y : Operand} {n : Nat} {cs : List AV} {k : IntKind} {i : Int} {ti ei : TI} {e : TypeId} (ht : tget c.U t = some ti) (htd : ti.desc = .slice e) (he : tget c.U e = some ei)
    (hx : opv s.T x = some (.vs n cs)) (hy : opv s.T y = some (.pl (.int k i))) (hi : 0 ≤ i ∧ i < n) : QOpS c ⟨d, .indexAddr t x y, ty, pos, af, g⟩ s (.vptr (cs.drop (i.toNat * ei.size))) := by
  have h : ((i.toNat : Nat) : Int) = i := Int.toNat_of_nonneg hi.1
  rw [← h] at hy
  exact s_indexAddr_vs ht htd he hx hy (by omega)
end
end Go.Abs
