/-
  STRUCTS OF WHOLE NUMBERS, compared. Generic over the program. Conditions: none.
-/
import Derived.Test.YtipbfnjpfmmkfaaGreatDoorAbsBorrow
import Derived.Laws.StructEq
set_option linter.unusedVariables false
set_option linter.unusedSectionVars false
namespace Go.Abs
open Go
variable [GTab]
/-- Fields of whole numbers of one kind, one cell each, one behind the other. -/
def intFs (U : List (Nat × TI)) (k : IntKind) : Nat → List Field → Bool
  | _, [] => true
  | o, f :: r => Nat.beq f.offset o && ((f.name != "_") && ((match tget U f.type with | some ti => (match ti.desc with | .int k' => k' == k | _ => false) | none => false) && intFs U k (o + 1) r))
def encIs (k : IntKind) (xs : List Int) : List AV := xs.map fun n => .pl (.int k n)
section
variable {c : Ctx}
theorem run_part_at {t : TypeId} {ti : TI} (ht : tget c.U t = some ti) (ha : aggD ti.desc = false) {cs : Array Value} {o : Nat} {v : Value} (h : cs[o]? = some v) (w : World) : (part t cs o).run c.P w = .ok v w := by
  unfold part
  simp [ty_agg ht, ha, h]
theorem run_eqFields_ints {k : IntKind} (d : Nat) (w : World) (vx vy : Array Value) : ∀ (fs : List Field) (o : Nat) (xs ys : List Int), intFs c.U k o fs = true → xs.length = fs.length → ys.length = fs.length →
    (∀ (j : Nat) (n : Int), xs[j]? = some n → vx[o + j]? = some (.int k n)) → (∀ (j : Nat) (n : Int), ys[j]? = some n → vy[o + j]? = some (.int k n)) → (Op.eqFields (d + 1) vx vy fs).run c.P w = .ok (xs == ys) w
  | [], o, xs, ys, _, hx, hy, _, _ => by
    obtain rfl := List.eq_nil_of_length_eq_zero hx
    obtain rfl := List.eq_nil_of_length_eq_zero hy
    simp [Op.eqFields]
  | f :: fs, o, a :: xs, b :: ys, hB, hx, hy, h1, h2 => by
    simp only [intFs, Bool.and_eq_true] at hB
    obtain ⟨ho, hn, ht, hr⟩ := hB
    have ho := Nat.eq_of_beq_eq_true ho
    have hn : f.name ≠ "_" := by simpa using hn
    split at ht
    · rename_i ti hti
      split at ht
      · rename_i k' hd
        have hk : k' = k := by simpa using ht
        subst hk
        have ha : aggD ti.desc = false := by rw [hd]; rfl
        have e1 := run_part_at hti ha (cs := vx) (o := f.offset) (h1 0 a rfl |> fun h => by rw [ho]; exact h) w
        have e2 := run_part_at hti ha (cs := vy) (o := f.offset) (h2 0 b rfl |> fun h => by rw [ho]; exact h) w
        have e3 := run_equalIn_int (P := c.P) w d f.type k' k' a b ((ty_under hti).trans (congrArg some hd))
        have ih := run_eqFields_ints d w vx vy fs (o + 1) xs ys hr (by simpa using hx) (by simpa using hy)
          (fun j n hj => by have := h1 (j + 1) n (by simpa using hj); rwa [show o + 1 + j = o + (j + 1) by omega])
          (fun j n hj => by have := h2 (j + 1) n (by simpa using hj); rwa [show o + 1 + j = o + (j + 1) by omega])
        simp only [Op.eqFields, hn, ne_eq, not_false_eq_true, if_true, Sem.run_bind, e1, e2, e3, Result.andThen_ok]
        by_cases hab : a = b
        · subst hab; simp [ih]
        · simp [hab]
      · cases ht
    · cases ht
  | _ :: _, _, [], _, _, hx, _, _, _ => by simp at hx
  | _ :: _, _, _ :: _, [], _, _, hy, _, _ => by simp at hy
end
section
variable {c : Ctx} {s : St} {d : Option Tmp} {ty : TypeId} {pos : String} {af : Array Edge} {g : Option (Nat × Bool)}
theorem VRel.ints {F : Nat → Prop} {β : Emb} {w : World} {k : IntKind} {xs : List Int} {v : Value} (h : VRel F β w (.agg (encIs k xs)) v) : ∃ vs : Array Value, v = .agg vs ∧ ∀ (j : Nat) (n : Int), xs[j]? = some n → vs[j]? = some (Value.int k n) := by
  obtain ⟨vs, rfl, _, hall⟩ := h.agg_inv
  refine ⟨vs, rfl, fun j n hj => ?_⟩
  obtain ⟨u, hu, hr⟩ := hall j (.pl (.int k n)) (by simp [encIs, hj])
  obtain rfl := hr.pl_eq
  exact hu
/-- Structs of whole numbers, alike or not. -/
theorem q_eq_ints {op : BinOp} {t t' : TypeId} {x y : Operand} {k : IntKind} {xs ys : List Int} {ax ay : AV} {r : Bool} {ti : TI} {fs : Array Field} (hsh : c.P.stoodInHeld t = false) (hgt : c.P.eqGuardType c.P.depth t = false) (ht : tget c.U t = some ti) (hd : ti.desc = .struct fs) (hB : intFs c.U k 0 fs.toList = true)
    (hlx : xs.length = fs.toList.length) (hly : ys.length = fs.toList.length) (hx : opv s.T x = some ax) (hax : ax = .agg (encIs k xs)) (hy : opv s.T y = some ay) (hay : ay = .agg (encIs k ys))
    (hop : (op = .eql ∧ r = (xs == ys)) ∨ (op = .neq ∧ r = !(xs == ys))) : QOp c ⟨d, .binOp op t x y t', ty, pos, af, g⟩ s (.pl (.bool r)) := by
  subst hax hay
  intro a w β hs
  obtain ⟨vx, hvx, h1⟩ := (hs.op hx).ints
  obtain ⟨vy, hvy, h2⟩ := (hs.op hy).ints
  have hu : c.P.underlying t = some (.struct fs) := (ty_under ht).trans (congrArg some hd)
  have hfo : c.P.fieldsOf t = fs := by simp [Program.fieldsOf, hu]
  have he : ∀ w', (Op.equalIn 10000 t (.agg vx) (.agg vy)).run c.P w' = .ok (xs == ys) w' := fun w' => by
    rw [run_equalIn_agg w' 9999 t vx vy (by rw [hfo]; exact hu) hsh, hfo]
    exact run_eqFields_ints 9998 w' vx vy fs.toList 0 xs ys hB hlx hly (fun j n hj => by simpa using h1 j n hj) (fun j n hj => by simpa using h2 j n hj)
  refine ⟨_, .c (.pl _), fun w' _ => ?_⟩
  have hg := fun op => run_eqGuard_agg (P := c.P) w' op t x y vx vy hgt
  rcases hop with ⟨rfl, rfl⟩ | ⟨rfl, rfl⟩
  · simp [execOp, hvx, hvy, hg, run_eql_struct, he]
  · simp [execOp, hvx, hvy, hg, run_neq_struct, he]
end
end Go.Abs
