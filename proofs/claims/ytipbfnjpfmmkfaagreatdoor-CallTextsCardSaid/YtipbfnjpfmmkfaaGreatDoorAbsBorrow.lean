/-
  A CALL THAT BORROWS: a pure contract over memory that nobody writes serves a call that is handed owned memory, where its result holds none of it. Generic over the program. Conditions: none.
-/
import Derived.Test.YtipbfnjpfmmkfaaGreatDoorAbsLoop
set_option linter.unusedVariables false
set_option linter.unusedSectionVars false
namespace Go.Abs
open Go
variable [GTab]
mutual
/-- Plain all through. -/
def AV.flat : AV → Bool
  | .pl _ => true
  | .agg cs => AV.flatL cs
  | .tup cs => AV.flatL cs
  | _ => false
def AV.flatL : List AV → Bool
  | [] => true
  | x :: r => AV.flat x && AV.flatL r
end
theorem AV.flatL_get : ∀ {l : List AV} (h : AV.flatL l = true) {i : Nat} {x : AV}, l[i]? = some x → x.flat = true
  | [], _, i, x, hx => by simp at hx
  | y :: r, h, 0, x, hx => by simp [AV.flatL] at h hx; subst hx; exact h.1
  | y :: r, h, i + 1, x, hx => by simp [AV.flatL] at h hx; exact AV.flatL_get h.2 hx
theorem CRel.flat {O O' : Nat → Prop} {w w' : World} {x : AV} {v : Value} (h : CRel O w x v) (hf : x.flat = true) : CRel O' w' x v := by
  induction h with
  | pl v => exact .pl v
  | agg hl _ ih => exact .agg hl fun i x v hx hv => ih i x v hx hv (AV.flatL_get (by simpa [AV.flat] using hf) hx)
  | tup hl _ ih => exact .tup hl fun i x v hx hv => ih i x v hx hv (AV.flatL_get (by simpa [AV.flat] using hf) hx)
  | _ => simp [AV.flat] at hf
theorem VRel.flat {F F' : Nat → Prop} {β β' : Emb} {w w' : World} {x : AV} {v : Value} (h : VRel F β w x v) (hf : x.flat = true) : VRel F' β' w' x v := by
  induction h with
  | c h => exact .c (h.flat hf)
  | agg hl _ ih => exact .agg hl fun i x v hx hv => ih i x v hx hv (AV.flatL_get (by simpa [AV.flat] using hf) hx)
  | tup hl _ ih => exact .tup hl fun i x v hx hv => ih i x v hx hv (AV.flatL_get (by simpa [AV.flat] using hf) hx)
  | _ => simp [AV.flat] at hf

theorem SatB.cells_of {c : Ctx} {s : St} {β : Emb} {a : Act} {w : World} (hs : SatB c s β a w) {b : Nat} {p : Place} {ob : AObj} {cs : List AV} (hp : β b = some p) (hb : hget s.H b = some ob) (hcs : cellsOf ob = some cs) (hn : p.nil = false) :
    ∀ (i : Nat) (x : AV), cs[i]? = some x → ∃ u, w.cell? ⟨p.blk, p.st + i, none⟩ = some u ∧ CRel (off c.F β) w x u ∧ u.oneCell' = true := by
  obtain ⟨p', hp', hro⟩ := hs.heap.obj b _ hb
  rw [hp] at hp'; cases hp'
  intro i x hx
  cases ob with
  | row te k' fz ds =>
    cases hcs
    obtain ⟨_, _, h3⟩ := hro
    obtain ⟨cv, fr, hcv, _, _, h6, _⟩ := h3 hn
    obtain ⟨u, hu, hc, h1⟩ := h6 i x hx
    exact ⟨u, by rw [cell_of_cells hcv]; exact hu, hc, h1⟩
  | box tb ds =>
    simp only [cellsOf] at hcs
    split at hcs
    · rename_i hcl
      cases hcs
      obtain ⟨_, cv, fr, hcv, _, h6, _⟩ := hro
      obtain ⟨u, hu, hc, h1⟩ := h6 i x hx
      exact ⟨u, by rw [cell_of_cells hcv]; exact hu, hc.closed (AV.closedL_get hcl hx), h1⟩
    · cases hcs
  | map es => cases hcs
  | siter sx pos => cases hcs
theorem mapNL_map (f : AV → AV) : ∀ l : List AV, AV.mapNL f l = l.map (AV.mapN f)
  | [] => rfl
  | x :: r => by rw [AV.mapNL, mapNL_map f r]; rfl

section
variable {P : Program} {c : Ctx} {Q : Exit → Act → World → Prop} {T : List (Nat × AV)} {H : List (Nat × AObj)} {M : List Nat} {ops : Array Oper} {rest : List Oper} {hot : List Nat} {l : Plan} {i : Nat} {d : Tmp} {ty : TypeId} {pos : String} {af : Array Edge} {cl : Call} {k : FuncId} {first cap es args : List AV} {r : AV}
end

/-! ### More tests whose outcome is known by a fact -/
section
variable {c : Ctx} {Q : Exit → Act → World → Prop} {T : List (Nat × AV)} {H : List (Nat × AObj)} {M : List Nat} {ops : Array Oper} {rest : List Oper} {hot : List Nat} {l : Plan} {i : Nat} {d : Tmp} {ty : TypeId} {pos : String} {af : Array Edge} {op : Op} {j q : Nat} {b b' f : Bool} {e : Bool} {x : Operand}
end
/-! ### A contract at stronger arguments -/
def LeA : List AV → List AV → Prop
  | [], [] => True
  | x :: xs, y :: ys => AV.Le x y ∧ LeA xs ys
  | _, _ => False
theorem LeA.get : ∀ {xs ys : List AV} (h : LeA xs ys), xs.length = ys.length ∧ ∀ (i : Nat) (y : AV), ys[i]? = some y → ∃ x, xs[i]? = some x ∧ AV.Le x y
  | [], [], _ => ⟨rfl, by simp⟩
  | x :: xs, y :: ys, h => ⟨by simp [(LeA.get h.2).1], fun i z hz => by
      cases i with
      | zero => simp at hz; subst hz; exact ⟨x, rfl, h.1⟩
      | succ i => simpa using (LeA.get h.2).2 i z (by simpa using hz)⟩
  | [], _ :: _, h => h.elim
  | _ :: _, [], h => h.elim
theorem AV.Le.refl (x : AV) : AV.Le x x := fun _ _ _ _ h => h
theorem AV.CLe.agg {xs ys : List AV} (h : LeL xs ys) (hl : xs.length = ys.length) : AV.CLe (.agg xs) (.agg ys) := fun O w v hv => by
  cases hv with
  | agg hl' hall =>
    refine .agg (hl ▸ hl') fun i y v hy hv => ?_
    obtain ⟨x, hx, hle⟩ := h.get hy
    exact hle _ _ _ (hall i x v hx hv)
theorem ASpec.le {P : Program} {k : FuncId} {xs ys : List AV} {H : List (Nat × AObj)} {Q : Post} (h : ASpec P k ys H Q) (hle : LeA xs ys) : ASpec P k xs H Q :=
  ⟨h.1, fun F β w vs hH ha => h.2 F β w vs hH ⟨hle.get.1 ▸ ha.1, fun i y v hy hv => by
    obtain ⟨x, hx, hl⟩ := hle.get.2 i y hy
    exact hl _ _ _ _ (ha.2 i x v hx hv)⟩⟩
end Go.Abs
