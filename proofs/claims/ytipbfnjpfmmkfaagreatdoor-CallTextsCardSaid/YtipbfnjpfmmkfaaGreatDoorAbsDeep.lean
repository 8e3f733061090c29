/-
  MORE STEPS over boxes that hold rows. Generic over the program. Conditions: none.
-/
import Derived.Test.YtipbfnjpfmmkfaaGreatDoorAbsZero
set_option linter.unusedVariables false
set_option linter.unusedSimpArgs false
set_option linter.unusedSectionVars false
namespace Go.Abs
open Go Go.RowKit Go.Proofs W
variable [GTab]
section
variable {c : Ctx} {Q : Exit → Act → World → Prop} {T : List (Nat × AV)} {H : List (Nat × AObj)} {M : List Nat} {ops : Array Oper} {rest : List Oper} {hot : List Nat} {lq : Plan}
/-- A length in a box's cell, said anew. -/
theorem HRel.same {F : Nat → Prop} {β : Emb} {H H' : List (Nat × AObj)} {w : World} (h : HRel F β H w) (e : ∀ b, hget H' b = hget H b) : HRel F β H' w :=
  ⟨fun b o ho => h.obj b o (by rw [← e]; exact ho), fun b p hp => by rw [e]; exact h.dom b p hp, h.inj, h.fresh, h.apart, h.glob⟩
theorem Sat.relenc {tb : TypeId} {a : Act} {w : World} {b1 j b o n m : Nat} {cs : List AV} (h : Sat c ⟨T, H, M⟩ a w) (hb1 : hget H b1 = some (.box tb cs)) (hj : cs[j]? = some (.sl b o n)) (e : n = m) : Sat c ⟨T, hset H b1 (.box tb (cs.set j (.sl b o m))), M⟩ a w := by
  subst e
  obtain ⟨β, hs⟩ := h
  have hcs : cs.set j (.sl b o n) = cs := by
    apply List.ext_getElem?
    intro i
    by_cases hi : j = i
    · subst hi; rw [List.getElem?_set_self (List.getElem?_eq_some_iff.1 hj).1, hj]
    · rw [List.getElem?_set_ne hi]
  refine ⟨β, hs.defers, hs.size, hs.heap.same fun b' => ?_, hs.slot, hs.keeps, hs.stay⟩
  rw [hget_hset, hcs]
  by_cases hb : b1 = b'
  · subst hb; rw [if_pos rfl, hb1]
  · rw [if_neg hb]
theorem f_relenc {tb : TypeId} {ex : Exit} {b o n : Nat} {cs : List AV} (b1 j m : Nat) (h : Fin c Q ex ⟨T, hset H b1 (.box tb (cs.set j (.sl b o m))), M⟩) (hb1 : hget H b1 = some (.box tb cs) := by exact rfl) (hj : cs[j]? = some (.sl b o n) := by exact rfl) (e : n = m := by omega) : Fin c Q ex ⟨T, H, M⟩ := fun a w hs => h a w (hs.relenc hb1 hj e)
/-- What is nil in a slot: of no elements. -/
theorem l_nilt {x : AV} (t : Nat) (h : RunL c ops Q rest ⟨(t, nilN x) :: T, H, M⟩) (ht : get T t = some x := by exact rfl) : RunL c ops Q rest ⟨T, H, M⟩ := fun a w hs => h a w (hs.weak ht (nilN_le x))
theorem m_nilt {x : AV} (t : Nat) (h : RunM c ops hot Q lq ⟨(t, nilN x) :: T, H, M⟩) (ht : get T t = some x := by exact rfl) : RunM c ops hot Q lq ⟨T, H, M⟩ := fun a w hs => h a w (hs.weak ht (nilN_le x))
theorem l_nilcell {te : TypeId} {tb : TypeId} {b1 j : Nat} {cs : List AV} (b k : Nat) (h : RunL c ops Q rest ⟨T, hset ((b, .row te k 0 []) :: H) b1 (.box tb (cs.set j (.sl b 0 0))), M⟩) (hb1 : hget H b1 = some (.box tb cs) := by exact rfl) (hj : cs[j]? = some (.pl (.slice none 0 0)) := by exact rfl) (hb : hget H b = none := by exact rfl) : RunL c ops Q rest ⟨T, H, M⟩ := fun a w hs => h a w (hs.nilcell b k hb1 hj hb)
theorem f_nilcell {te : TypeId} {tb : TypeId} {e : Exit} {b1 j : Nat} {cs : List AV} (b k : Nat) (h : Fin c Q e ⟨T, hset ((b, .row te k 0 []) :: H) b1 (.box tb (cs.set j (.sl b 0 0))), M⟩) (hb1 : hget H b1 = some (.box tb cs) := by exact rfl) (hj : cs[j]? = some (.pl (.slice none 0 0)) := by exact rfl) (hb : hget H b = none := by exact rfl) : Fin c Q e ⟨T, H, M⟩ := fun a w hs => h a w (hs.nilcell b k hb1 hj hb)
end
/-- A contract of values alone, that leaves the world as it was. -/
theorem lift_x {P : Program} {k : FuncId} {args : List Value} {r : Value} (hf : ∀ (es : Array Value) (w : World), (callFunc k es).run P w = .ok (.enter k es) w)
    (h : ∀ w : World, (∀ g ∈ GTab.ints, ∃ n : Int, w.cell? ⟨g, 0, none⟩ = some (.int .i64 n)) → Calls P k args.toArray w fun e w' => e = .returned r ∧ w' = w) : XSpec P k (args.map AV.pl) [] (.pl r) [] [] := by
  refine ⟨hf, fun F β w vs hH hA => ?_⟩
  have hvs : vs = args := by
    apply List.ext_getElem?
    intro i
    have hl : (args.map AV.pl).length = vs.length := hA.1
    by_cases hi : i < args.length
    · have hi2 : i < vs.length := by rw [← hl]; simpa using hi
      rw [List.getElem?_eq_getElem hi, List.getElem?_eq_getElem hi2]
      have := (hA.2 i (AV.pl args[i]) vs[i] (by simp [hi]) (List.getElem?_eq_getElem hi2)).pl_eq
      rw [this]
    · rw [List.getElem?_eq_none (l := vs) (by rw [← hl]; simp; omega), List.getElem?_eq_none (l := args) (by omega)]
  subst hvs
  have hn : ∀ b, β b = none := fun b => by
    cases hb : β b with
    | none => rfl
    | some p => obtain ⟨o, ho⟩ := hH.dom b p hb; cases ho
  refine Calls.mono (h w fun g hg => ?_) ?_
  · obtain ⟨_, _, n, t, fr, hw⟩ := hH.glob.int g hg
    exact ⟨n, by simp [World.cell?, hw]⟩
  · rintro e w' ⟨rfl, rfl⟩
    exact ⟨_, _, [], [], β, rfl, ⟨rfl, rfl, rfl⟩, hH, .c (.pl _), Keeps.refl _ _, fun b p hp => (by rw [hn b] at hp; cases hp)⟩
end Go.Abs
