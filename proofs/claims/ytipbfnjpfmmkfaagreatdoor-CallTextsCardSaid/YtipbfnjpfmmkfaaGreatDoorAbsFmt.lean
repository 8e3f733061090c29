/-
  strconv.FormatInt AT BASE 10: the shelf's contract as a contract over abstract states. Generic over the program. Conditions: its table is among those that stay.
-/
import Derived.Test.YtipbfnjpfmmkfaaGreatDoorAbsZero
import Derived.Shelf.Strconv.Itoa4
import Derived.Lib.QuietBelow
set_option linter.unusedVariables false
set_option linter.unusedSimpArgs false
set_option linter.unusedSectionVars false
namespace Go.Abs
open Go Go.Shelf Go.RowKit Go.Lib Go.Sort Go.Proofs W
variable [GTab]
theorem fmt_x {P : Program} {ρ : Ren} (L : LaysM.n173 P ρ) {g j : Nat} (hg : P.globalNamed "internal/strconv.uint64pow10" = some g) (htab : GTab.tab[j]? = some (g, pow10Tab.map fun z => Value.int .u64 z))
    (hf : ∀ (es : Array Value) (w : World), (callFunc (ρ.f 173) es).run P w = .ok (.enter (ρ.f 173) es) w) (n : Int) (h : -9223372036854775808 ≤ n ∧ n ≤ 9223372036854775807) :
    XSpec P (ρ.f 173) [.pl (.int .i64 n), .pl (.int .i64 10)] [] (.pl (.string ⟨(itoa n).toArray⟩)) [] [] := by
  refine ⟨hf, fun F β w vs hH hA => ?_⟩
  obtain ⟨hlen, hall⟩ := hA
  match vs, hlen with
  | [v1, v2], _ =>
  obtain rfl := (hall 0 _ v1 rfl rfl).pl_eq
  obtain rfl := (hall 1 _ v2 rfl rfl).pl_eq
  have hn : ∀ b, β b = none := fun b => by
    cases hb : β b with
    | none => rfl
    | some p => obtain ⟨o, ho⟩ := hH.dom b p hb; cases ho
  have hTab : TabIs P w "internal/strconv.uint64pow10" .u64 pow10Tab := by
    obtain ⟨⟨t, fr, hw⟩, _, _, _⟩ := hH.glob.at htab
    unfold TabIs World.var?
    rw [hg]
    simp only [Option.bind_some, hw, List.map_map]
  refine Calls.mono (Any.strconv_FormatInt_10 L n h.1 h.2 w hTab) ?_
  rintro e w' ⟨rfl, q, os, rfl⟩
  have hb : BelowD w (grow (w.drewN q) os) := ⟨⟨rfl, rfl, rfl, by show _ ≤ (w.heap ++ os).size; simp, fun k hk => by
    show (w.heap ++ os)[k]? = _
    rw [Array.getElem?_append_left hk]⟩, Nat.le_add_right _ _⟩
  refine ⟨_, _, _, [], β, rfl, ⟨rfl, rfl, rfl⟩, hH.later hb.1, .c (.pl _), Keeps.of_below hb, fun b p hp => (by rw [hn b] at hp; cases hp)⟩
end Go.Abs
