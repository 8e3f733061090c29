/-
  NAMES OF OWNED OBJECTS: one is given another name; an object is frozen wherever its name stands; a function leaves some of what it owns; a call is given some of it. Generic over the program. Conditions: none.
-/
import Derived.Test.YtipbfnjpfmmkfaaGreatDoorAbsRet
set_option linter.unusedVariables false
set_option linter.unusedSectionVars false
namespace Go.Abs
open Go
variable [GTab]

mutual
/-- The names in a value, turned by 'f' wherever one stands. -/
def AV.mapN (f : AV → AV) : AV → AV
  | .agg cs => .agg (AV.mapNL f cs)
  | .tup cs => .tup (AV.mapNL f cs)
  | .fn g cs ds => .fn g (AV.mapNL f cs) (AV.mapNL f ds)
  | .ifc t x => .ifc t (AV.mapN f x)
  | .nptr z b o => f (.nptr z b o)
  | .sl b o n => f (.sl b o n)
  | .mp b => f (.mp b)
  | .it b => f (.it b)
  | x => x
def AV.mapNL (f : AV → AV) : List AV → List AV
  | [] => []
  | x :: r => AV.mapN f x :: AV.mapNL f r
end
theorem AV.mapNL_length (f : AV → AV) : ∀ l, (AV.mapNL f l).length = l.length
  | [] => rfl
  | x :: r => by simp [AV.mapNL, AV.mapNL_length f r]
theorem AV.mapNL_get (f : AV → AV) : ∀ (l : List AV) (i : Nat) (y : AV), (AV.mapNL f l)[i]? = some y → ∃ x, l[i]? = some x ∧ y = x.mapN f
  | [], i, y, h => by simp [AV.mapNL] at h
  | x :: r, 0, y, h => by simp [AV.mapNL] at h; exact ⟨x, rfl, h.symm⟩
  | x :: r, i + 1, y, h => by
    simp only [AV.mapNL, List.getElem?_cons_succ] at h
    simpa using AV.mapNL_get f r i y h
def AV.leaf : AV → Bool
  | .nptr _ _ _ | .sl _ _ _ | .mp _ | .it _ => true
  | _ => false
theorem VRel.mapN {F F' : Nat → Prop} {β β' : Emb} {w w' : World} {f : AV → AV} (hs : w.heap.size ≤ w'.heap.size) (hO : ∀ b, off F' β' b → off F β b ∨ w.heap.size ≤ b)
    (hw : ∀ b, b < w.heap.size → ¬ off F β b → w'.heap[b]? = w.heap[b]?) (hleaf : ∀ x v, x.leaf = true → VRel F β w x v → VRel F' β' w' (f x) v) {x : AV} {v : Value} (h : VRel F β w x v) : VRel F' β' w' (x.mapN f) v := by
  induction h with
  | @c x v h =>
    have hc : ∀ {y u}, CRel (off F β) w y u → VRel F' β' w' (y.mapN f) u := by
      intro y u hy
      induction hy with
      | pl v => exact .c (.pl v)
      | agg hl _ ih => exact .agg (by rw [AV.mapNL_length]; exact hl) (fun i x v hx hv => by obtain ⟨y, hy, rfl⟩ := AV.mapNL_get _ _ _ _ hx; exact ih i y v hy hv)
      | tup hl _ ih => exact .tup (by rw [AV.mapNL_length]; exact hl) (fun i x v hx hv => by obtain ⟨y, hy, rfl⟩ := AV.mapNL_get _ _ _ _ hx; exact ih i y v hy hv)
      | fn hl _ hl2 _ ih ih2 =>
        exact .fn (by rw [AV.mapNL_length]; exact hl) (fun i x v hx hv => by obtain ⟨y, hy, rfl⟩ := AV.mapNL_get _ _ _ _ hx; exact ih i y v hy hv)
          (by rw [AV.mapNL_length]; exact hl2) (fun i x v hx hv => by obtain ⟨y, hy, rfl⟩ := AV.mapNL_get _ _ _ _ hx; exact ih2 i y v hy hv)
      | ifc _ ih => exact .ifc ih
      | vptr f hc ho hb h ih => exact .c ((CRel.vptr f hc ho hb h).mono hs hO hw)
      | vnil => exact .c .vnil
      | vs0 => exact .c .vs0
      | vs hn f hc ho hb h ih => exact .c ((CRel.vs hn f hc ho hb h).mono hs hO hw)
      | vm0 => exact .c .vm0
      | vm ms ck hh ho hb hlk hlx hbn hd hk hx _ _ => exact .c ((CRel.vm ms ck hh ho hb hlk hlx hbn hd hk hx).mono hs hO hw)
    exact hc h
  | agg hl _ ih => exact .agg (by rw [AV.mapNL_length]; exact hl) (fun i x v hx hv => by obtain ⟨y, hy, rfl⟩ := AV.mapNL_get _ _ _ _ hx; exact ih i y v hy hv)
  | tup hl _ ih => exact .tup (by rw [AV.mapNL_length]; exact hl) (fun i x v hx hv => by obtain ⟨y, hy, rfl⟩ := AV.mapNL_get _ _ _ _ hx; exact ih i y v hy hv)
  | fn hl _ hl2 _ ih ih2 =>
    exact .fn (by rw [AV.mapNL_length]; exact hl) (fun i x v hx hv => by obtain ⟨y, hy, rfl⟩ := AV.mapNL_get _ _ _ _ hx; exact ih i y v hy hv)
      (by rw [AV.mapNL_length]; exact hl2) (fun i x v hx hv => by obtain ⟨y, hy, rfl⟩ := AV.mapNL_get _ _ _ _ hx; exact ih2 i y v hy hv)
  | ifc _ ih => exact .ifc ih
  | ptr hp hn => exact hleaf _ _ rfl (.ptr hp hn)
  | pnil => exact hleaf _ _ rfl .pnil
  | sl hp hn hc hl => exact hleaf _ _ rfl (.sl hp hn hc hl)
  | slz hp ha => exact hleaf _ _ rfl (.slz hp ha)
  | mp hp hn => exact hleaf _ _ rfl (.mp hp hn)
  | it hp hn => exact hleaf _ _ rfl (.it hp hn)
  | anyp => exact .anyp
  | junk h => exact .junk h
  | gone => exact .gone

def mapT (f : AV → AV) : List (Nat × AV) → List (Nat × AV)
  | [] => []
  | (i, x) :: r => (i, x.mapN f) :: mapT f r
theorem get_mapT (f : AV → AV) (T : List (Nat × AV)) (i : Nat) : get (mapT f T) i = (get T i).map (AV.mapN f) := by
  induction T with
  | nil => rfl
  | cons q r ih =>
    obtain ⟨j, x⟩ := q
    simp only [mapT, get_cons, ih]
    split <;> rfl
def AObj.mapN (f : AV → AV) : AObj → AObj
  | .box tb cs => .box tb (AV.mapNL f cs)
  | o => o
def mapH (f : AV → AV) : List (Nat × AObj) → List (Nat × AObj)
  | [] => []
  | (i, o) :: r => (i, o.mapN f) :: mapH f r
theorem hget_mapH (f : AV → AV) (H : List (Nat × AObj)) (i : Nat) : hget (mapH f H) i = (hget H i).map (AObj.mapN f) := by
  induction H with
  | nil => rfl
  | cons q r ih =>
    obtain ⟨j, x⟩ := q
    simp only [mapH, hget_cons, ih]
    split <;> rfl
theorem ORel.mapN {F F' : Nat → Prop} {β β' : Emb} {w w' : World} {f : AV → AV} {p : Place} {o : AObj} (hs : w.heap.size ≤ w'.heap.size) (hO : ∀ b, off F' β' b → off F β b ∨ w.heap.size ≤ b)
    (hw : ∀ b, b < w.heap.size → ¬ off F β b → w'.heap[b]? = w.heap[b]?) (hleaf : ∀ x v, x.leaf = true → VRel F β w x v → VRel F' β' w' (f x) v)
    (hp : p.nil = false → w'.heap[p.blk]? = w.heap[p.blk]?) (h : ORel F β w p o) : ORel F' β' w' p (o.mapN f) := by
  cases o with
  | row te k fz cs =>
    obtain ⟨h1, h2, h3⟩ := h
    refine ⟨h1, h2, fun hn => ?_⟩
    obtain ⟨cv, fr, ht, h4, h5, h6, h7⟩ := h3 hn
    exact ⟨cv, fr, (by unfold CellsAt; rw [hp hn]; exact ht), h4, h5, fun i x hx => let ⟨v, hv, hc, h1c⟩ := h6 i x hx; ⟨v, hv, hc.mono hs hO hw, h1c⟩, h7⟩
  | box tb cs =>
    obtain ⟨h1, cv, fr, ht, h5, h6, h7⟩ := h
    refine ⟨h1, cv, fr, (by unfold CellsAt; rw [hp h1]; exact ht), by rw [AV.mapNL_length]; exact h5, fun i x hx => ?_, h7⟩
    obtain ⟨y, hy, rfl⟩ := AV.mapNL_get _ _ _ _ hx
    obtain ⟨v, hv, hc, h1c⟩ := h6 i y hy
    exact ⟨v, hv, hc.mapN hs hO hw hleaf, h1c⟩
  | map es =>
    obtain ⟨h1, ms, clock, h2, h3, h4, h5⟩ := h
    refine ⟨h1, ms, clock, by rw [hp h1]; exact h2, h3, fun i x e hx he => ?_, h5⟩
    obtain ⟨q1, q2, q3⟩ := h4 i x e hx he
    exact ⟨q1.mono hs hO hw, q2.mono hs hO hw, q3⟩
  | siter sx pos => exact ⟨h.1, by rw [hp h.1]; exact h.2⟩

/-! ### A new name -/
/-! ### An object is frozen, wherever its name stands -/
/-- The cells of an object whose cells are all closed. -/
def cellsOf : AObj → Option (List AV)
  | .row _ _ _ cs => some cs
  | .box tb cs => match AV.closedL cs with | true => some cs | false => none
  | _ => none

section
variable {c : Ctx} {Q : Exit → Act → World → Prop} {T : List (Nat × AV)} {H : List (Nat × AObj)} {M : List Nat} {code : Code} {ops : Array Oper} {rest : List Oper} {e : Exit}
end
end Go.Abs
