/-
  LOOPS, their states written out. Generic over the program. Conditions: none.
-/
import Derived.Test.YtipbfnjpfmmkfaaGreatDoorAbsOps3
set_option linter.unusedVariables false
set_option linter.unusedSectionVars false
namespace Go.Abs
open Go
variable [GTab]
def subM : List Nat → List Nat → Bool
  | [], _ => true
  | b :: r, M => mem b M && subM r M
theorem subM_get {M' : List Nat} : ∀ {M : List Nat} (h : subM M M' = true) {b : Nat}, mem b M' = false → mem b M = false
  | [], _, b, _ => rfl
  | x :: r, h, b, hb => by
    simp only [subM, Bool.and_eq_true] at h
    rw [mem_cons, subM_get h.2 hb, Bool.or_false, decide_eq_false_iff_not]
    rintro rfl
    rw [hb] at h; cases h.1
theorem Sat.less {c : Ctx} {T T' : List (Nat × AV)} {H : List (Nat × AObj)} {M M' : List Nat} {a : Act} {w : World} (h : Sat c ⟨T, H, M⟩ a w) (hT : Sub T' T) (hM : subM M M' = true) : Sat c ⟨T', H, M'⟩ a w := by
  obtain ⟨β, hs⟩ := h.sub hT
  exact ⟨β, hs.defers, hs.size, hs.heap, hs.slot, hs.keeps, fun b p hp hb => hs.stay b p hp (subM_get hM hb)⟩
section
variable {c : Ctx} {Q : Exit → Act → World → Prop} {T : List (Nat × AV)} {H : List (Nat × AObj)} {M : List Nat} {x : Code}
end

/-! ### A nil slice in a box, as a row of one's own -/
theorem Sat.nilcell {te : TypeId} {tb : TypeId} {c : Ctx} {T : List (Nat × AV)} {H : List (Nat × AObj)} {M : List Nat} {a : Act} {w : World} (h : Sat c ⟨T, H, M⟩ a w) {b' j : Nat} {cs : List AV} (b k : Nat) (hb' : hget H b' = some (.box tb cs)) (hj : cs[j]? = some (.pl (.slice none 0 0))) (hb : hget H b = none) :
    Sat c ⟨T, hset ((b, .row te k 0 []) :: H) b' (.box tb (cs.set j (.sl b 0 0))), M⟩ a w := by
  obtain ⟨β, hs⟩ := h
  let p : Place := ⟨0, 0, 0, k, true⟩
  have hs' := hs.newobj (w' := w) hb p (.inr trivial) (fun h => by cases h) ⟨rfl, ⟨rfl, Nat.le_refl _⟩, rfl, Nat.le_refl _, fun _ _ _ => rfl⟩ (o := .row te k 0 []) ⟨rfl, (fun _ => rfl), (fun h => by cases h)⟩
  have hne : b ≠ b' := fun e => by subst e; rw [hb] at hb'; cases hb'
  obtain ⟨q, hq, hro⟩ := hs'.heap.obj b' (.box tb cs) (by rw [hget_cons, if_neg hne]; exact hb')
  have hro' := hro
  obtain ⟨hqn, cv, fr, h4, h5, h6, h7⟩ := hro
  refine ⟨upd β b p, hs'.setobj (w' := w) hq hqn ⟨rfl, ⟨rfl, Nat.le_refl _⟩, rfl, Nat.le_refl _, fun _ _ _ => rfl⟩ ⟨hqn, cv, fr, h4, by simpa using h5, fun i x hx => ?_, h7⟩⟩
  by_cases e : j = i
  · subst e
    rw [List.getElem?_set_self (List.getElem?_eq_some_iff.1 hj).1] at hx
    cases hx
    obtain ⟨v, hv, hr, h1⟩ := h6 j _ hj
    obtain rfl := hr.pl_eq
    exact ⟨_, hv, .slz (p := p) (upd_same _ _ _) (fun _ h => by cases h), h1⟩
  · rw [List.getElem?_set_ne e] at hx
    exact h6 i x hx
theorem Run_nilcell {te : TypeId} {tb : TypeId} {c : Ctx} {Q : Exit → Act → World → Prop} {T : List (Nat × AV)} {H : List (Nat × AObj)} {M : List Nat} {code : Code} {b' j : Nat} {cs : List AV} (b k : Nat) (hb' : hget H b' = some (.box tb cs)) (hj : cs[j]? = some (.pl (.slice none 0 0))) (hb : hget H b = none)
    (h : Run c Q code ⟨T, hset ((b, .row te k 0 []) :: H) b' (.box tb (cs.set j (.sl b 0 0))), M⟩) : Run c Q code ⟨T, H, M⟩ := fun a w hs => h a w (hs.nilcell b k hb' hj hb)
/-! ### A value seen as a weaker one -/
def AV.Le (x y : AV) : Prop := ∀ F β w v, VRel F β w x v → VRel F β w y v
def AV.CLe (x y : AV) : Prop := ∀ O w v, CRel O w x v → CRel O w y v
theorem AV.CLe.refl (x : AV) : AV.CLe x x := fun _ _ _ h => h
theorem AV.CLe.nil : AV.CLe (.pl (.slice none 0 0)) (.vs 0 []) := fun _ _ _ h => by cases h; exact .vs0
/-- Cell by cell, no more of them. -/
def LeL : List AV → List AV → Prop
  | _, [] => True
  | x :: xs, y :: ys => AV.CLe x y ∧ LeL xs ys
  | [], _ :: _ => False
theorem LeL.get : ∀ {xs ys : List AV} (h : LeL xs ys) {i : Nat} {y : AV}, ys[i]? = some y → ∃ x, xs[i]? = some x ∧ AV.CLe x y
  | _, [], _, i, y, hy => by simp at hy
  | x :: xs, y :: ys, h, 0, z, hz => by simp at hz; subst hz; exact ⟨x, rfl, h.1⟩
  | x :: xs, y :: ys, h, i + 1, z, hz => by simpa using LeL.get h.2 (by simpa using hz)
theorem LeL.refl : ∀ xs : List AV, LeL xs xs
  | [] => trivial
  | x :: r => ⟨.refl x, LeL.refl r⟩
theorem AV.CLe.vs {n : Nat} {cs ds : List AV} (h : LeL cs ds) (h0 : n = 0 → ds = []) : AV.CLe (.vs n cs) (.vs n ds) := fun O w v hv => by
  cases hv with
  | vs0 => exact .vs0
  | vs hn f hc ho hb hr =>
    exact .vs hn f (fun i y hy => let ⟨x, hx, _⟩ := h.get hy; hc i x hx) ho hb (fun i y hy => let ⟨x, hx, hle⟩ := h.get hy; hle _ _ _ (hr i x hx))
theorem AV.CLe.le {x y : AV} (h : AV.CLe x y) (hc : x.closed = true) : AV.Le x y := fun F β w v hv => .c (h _ _ _ (hv.closed hc))
section
variable {c : Ctx} {Q : Exit → Act → World → Prop} {T : List (Nat × AV)} {H : List (Nat × AObj)} {M : List Nat} {code : Code} {ops : Array Oper} {rest : List Oper} {e : Exit}
theorem Sat.weak {a : Act} {w : World} (h : Sat c ⟨T, H, M⟩ a w) {t : Nat} {x y : AV} (ht : get T t = some x) (hle : AV.Le x y) : Sat c ⟨(t, y) :: T, H, M⟩ a w := by
  obtain ⟨β, hs⟩ := h
  refine ⟨β, hs.defers, hs.size, hs.heap, fun i z hz => ?_, hs.keeps, hs.stay⟩
  rw [get_cons] at hz
  by_cases e : t = i
  · rw [if_pos e] at hz; cases hz; subst e
    obtain ⟨v, hv, hr⟩ := hs.slot t x ht
    exact ⟨v, hv, hle _ _ _ _ hr⟩
  · rw [if_neg e] at hz; exact hs.slot i z hz
end
theorem Fin_nilrow {te : TypeId} {c : Ctx} {Q : Exit → Act → World → Prop} {T : List (Nat × AV)} {H : List (Nat × AObj)} {M : List Nat} {e : Exit} {t : Nat} (b k : Nat) (ht : get T t = some (.pl (.slice none 0 0))) (hb : hget H b = none) (h : Fin c Q e ⟨(t, .sl b 0 0) :: T, (b, .row te k 0 []) :: H, M⟩) : Fin c Q e ⟨T, H, M⟩ :=
  fun a w hs => h a w (hs.nilrow b k ht hb)
/-! ### Tests whose outcome is known by a fact -/
section
variable {c : Ctx} {Q : Exit → Act → World → Prop} {T : List (Nat × AV)} {H : List (Nat × AObj)} {M : List Nat} {ops : Array Oper} {rest : List Oper} {hot : List Nat} {l : Plan} {i : Nat} {d : Tmp} {ty : TypeId} {pos : String} {af : Array Edge} {op : Op} {j q : Nat} {b f : Bool} {e : Bool} {x : Operand} {p1 p2 : Code} {s : St}
end
/-! ### Calls, the contract first -/
section
variable {P : Program} {c : Ctx} {Q : Exit → Act → World → Prop} {T : List (Nat × AV)} {H H1 H2 H' : List (Nat × AObj)} {M : List Nat} {ops : Array Oper} {rest : List Oper} {hot : List Nat} {l : Plan} {i : Nat} {d : Tmp} {ty : TypeId} {pos : String} {af : Array Edge} {cl : Call} {k : FuncId} {first cap es args : List AV} {r : AV}
theorem RL_pcall (hspec : PSpec P k args r) (hP : c.P = P) (hk : calleeOf T cl.callee = some (k, first, cap)) (ha : opvL T cl.args.toList = some es) (hargs : first ++ es ++ cap = args) (hcl : AV.closedL args = true) (hdo : dstOk c.N (some d) = true)
    (hnext : RunL c ops Q rest ⟨(d, r) :: T, H, M⟩) : RunL c ops Q (⟨some d, .call cl, ty, pos, af, none⟩ :: rest) ⟨T, H, M⟩ := by
  subst hP; exact RL_callP hspec hk ha hargs hcl hdo hnext
theorem RN_pcall (hspec : PSpec P k args r) (hP : c.P = P) (hk : calleeOf T cl.callee = some (k, first, cap)) (ha : opvL T cl.args.toList = some es) (hargs : first ++ es ++ cap = args) (hon : AV.onlyL [] args = true) (hdo : dstOk c.N (some d) = true)
    (hnext : RunM c ops hot Q l ⟨(d, r) :: T, H, M⟩) : RunN c ops hot Q i true ⟨some d, .call cl, ty, pos, af, none⟩ l ⟨T, H, M⟩ := by
  subst hP; exact RN_callP hspec hk ha hargs hon hdo hnext
end
end Go.Abs
