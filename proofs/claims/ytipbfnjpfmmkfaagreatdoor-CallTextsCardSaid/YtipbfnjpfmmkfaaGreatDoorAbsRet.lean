/-
  RETURNS of functions that leave nothing; steps of guards with the state written out. Generic over the program. Conditions: none.
-/
import Derived.Test.YtipbfnjpfmmkfaaGreatDoorAbsTab
set_option linter.unusedVariables false
set_option linter.unusedSectionVars false
namespace Go.Abs
open Go
variable [GTab]
theorem mem_append (b : Nat) : ∀ (l l' : List Nat), mem b (l ++ l') = (mem b l || mem b l')
  | [], l' => by simp [mem]
  | x :: r, l' => by rw [List.cons_append, mem_cons, mem_cons, mem_append b r l', Bool.or_assoc]

section
variable {P : Program} {U : List (Nat × TI)} {hU : ∀ t i, tget U t = some i → P.underlying t = some i.desc ∧ ∃ info, P.info? t = some info ∧ info.size = i.size ∧ info.bytes = i.bytes ∧ info.zero = some i.zero}
    {F : Nat → Prop} {β : Emb} {w0 : World} {N : Nat} {fn : Func} {T : List (Nat × AV)} {H : List (Nat × AObj)} {M : List Nat} {r r' : AV}
end

section
variable {c : Ctx} {Q : Exit → Act → World → Prop} {T : List (Nat × AV)} {H : List (Nat × AObj)} {M : List Nat} {ops : Array Oper} {rest : List Oper} {op : Op} {d : Tmp} {ty : TypeId} {pos : String} {af : Array Edge} {j : Nat} {b : Bool} {q : Nat}
theorem RL_on (hj : ((ops[j]?).bind (·.dst)) = some q) (hx : get T q = some (.pl (.bool b))) (h : RunL c ops Q (⟨some d, op, ty, pos, af, none⟩ :: rest) ⟨T, H, M⟩) : RunL c ops Q (⟨some d, op, ty, pos, af, some (j, b)⟩ :: rest) ⟨T, H, M⟩ :=
  RunL_on (s := ⟨T, H, M⟩) rfl hj hx h
theorem RL_split {e : Bool} (hj : ((ops[j]?).bind (·.dst)) = some q) (hx : get T q = some (.pl (.bool e))) (ht : e = true → RunL c ops Q (⟨some d, op, ty, pos, af, some (j, b)⟩ :: rest) ⟨(q, .pl (.bool true)) :: T, H, M⟩)
    (hf : e = false → RunL c ops Q (⟨some d, op, ty, pos, af, some (j, b)⟩ :: rest) ⟨(q, .pl (.bool false)) :: T, H, M⟩) : RunL c ops Q (⟨some d, op, ty, pos, af, some (j, b)⟩ :: rest) ⟨T, H, M⟩ :=
  RunL_split (s := ⟨T, H, M⟩) rfl hj hx ht hf
end
end Go.Abs
