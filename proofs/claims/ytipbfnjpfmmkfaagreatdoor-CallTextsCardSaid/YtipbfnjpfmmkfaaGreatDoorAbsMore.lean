/-
  MORE OPERATIONS: pointers that may be nil, structs compared, bits, parts of rows, new rows. Generic over the program. Conditions: none.
-/
import Derived.Test.YtipbfnjpfmmkfaaGreatDoorAbsNil
import Derived.Test.YtipbfnjpfmmkfaaGreatDoorAbsStruct
import Derived.Laws.MakeOwn
set_option linter.unusedVariables false
set_option linter.unusedSimpArgs false
set_option linter.unusedSectionVars false
namespace Go.Abs
open Go
variable [GTab]
section
variable {c : Ctx} {s : St} {d : Option Tmp} {ty : TypeId} {pos : String} {af : Array Edge} {g : Option (Nat × Bool)}
/-! ### Pointers -/
theorem run_eqptr {P : Program} {t e : TypeId} (ht : P.underlying t = some (.pointer e)) (w : World) (A : Option Addr) : (Op.equal t (.pointer A) (.pointer none)).run P w = .ok A.isNone w := by
  show (Op.equalIn (9999 + 1) t (.pointer A) (.pointer none)).run P w = _
  generalize 9999 = d
  cases A <;> simp [Op.equalIn, run_underlying ht]
theorem q_ptrnil {op : BinOp} {t t' : TypeId} {x : Operand} {ax : AV} {z r : Bool} {ti : TI} {e : TypeId} (ht : tget c.U t = some ti) (htd : ti.desc = .pointer e) (hx : opv s.T x = some ax) (hz : (∃ cs, ax = .optr z cs) ∨ (∃ b o, ax = .nptr z b o) ∨ (ax = .pl (.pointer none) ∧ z = true))
    (hop : (op = .eql ∧ r = z) ∨ (op = .neq ∧ r = !z)) : QOp c ⟨d, .binOp op t x (.const (.pointer none)) t', ty, pos, af, g⟩ s (.pl (.bool r)) := by
  intro a w β hs
  have hv := hs.op hx
  have key : ∃ A, a.eval x = .pointer A ∧ A.isNone = z := by
    generalize hev : a.eval x = v at hv
    rcases hz with ⟨cs, rfl⟩ | ⟨b, o, rfl⟩ | ⟨rfl, rfl⟩
    rotate_right
    · exact ⟨none, hv.pl_eq, rfl⟩
    · cases hv with
      | c h => cases h with
        | vptr _ _ _ _ _ => exact ⟨_, rfl, rfl⟩
        | vnil => exact ⟨_, rfl, rfl⟩
    · cases hv with
      | c h => cases h
      | ptr _ _ => exact ⟨_, rfl, rfl⟩
      | pnil => exact ⟨_, rfl, rfl⟩
  obtain ⟨A, he, hA⟩ := key
  have hu : c.P.underlying t = some (.pointer e) := (ty_under ht).trans (congrArg some htd)
  refine ⟨_, .c (.pl _), fun w' _ => ?_⟩
  have h2 : a.eval (.const (.pointer none)) = .pointer none := rfl
  have h3 : eqGuard op t x (.const (.pointer none)) (.pointer A) (.pointer none) = pure () := by cases op <;> rfl
  rcases hop with ⟨rfl, rfl⟩ | ⟨rfl, rfl⟩
  · have h4 : binOp .eql t (.pointer A) (.pointer none) = (do pure (.bool (← Op.equal t (.pointer A) (.pointer none)))) := rfl
    simp [execOp, he, h2, h3, h4, run_eqptr hu, hA]
  · have h4 : binOp .neq t (.pointer A) (.pointer none) = (do pure (.bool (!(← Op.equal t (.pointer A) (.pointer none))))) := rfl
    simp [execOp, he, h2, h3, h4, run_eqptr hu, hA]
/-! ### Structs compared -/
inductive FV where
  | i (k : IntKind) (m n : Int)
  | s (l m : List UInt8)
  | b (p q : Bool)
def FV.x : FV → AV
  | .i k m _ => .pl (.int k m)
  | .s l _ => .pl (.string ⟨l.toArray⟩)
  | .b p _ => .pl (.bool p)
def FV.y : FV → AV
  | .i k _ n => .pl (.int k n)
  | .s _ m => .pl (.string ⟨m.toArray⟩)
  | .b _ q => .pl (.bool q)
def FV.r : FV → Bool
  | .i _ m n => m == n
  | .s l m => l == m
  | .b p q => p == q
def FV.desc : FV → TypeDesc → Bool
  | .i k _ _, .int k' => k' == k
  | .s _ _, .string => true
  | .b _ _, .bool => true
  | _, _ => false
def FV.all : List FV → Bool
  | [] => true
  | [f] => f.r
  | f :: l => f.r && FV.all l
theorem FV.all_cons (f : FV) (l : List FV) : FV.all (f :: l) = (f.r && FV.all l) := by
  cases l with
  | nil => simp [FV.all]
  | cons g r => rfl
/-! ### Bits -/
theorem q_shr {t t' : TypeId} {x y : Operand} {k k' : IntKind} {m n r : Int} (hx : opv s.T x = some (.pl (.int k m))) (hy : opv s.T y = some (.pl (.int k' n))) (hr : W.shr k.bits m n = some r) : QOp c ⟨d, .binOp .shr t x y t', ty, pos, af, g⟩ s (.pl (.int k r)) :=
  q_bin hx hy rfl fun w' => by
    unfold W.shr at hr
    cases e : decide (0 ≤ n) with
    | false => rw [e] at hr; cases hr
    | true =>
      rw [e] at hr; cases hr
      have e := of_decide_eq_true e
      simp [binOp, Op.shift, show ¬ n < 0 by omega]
theorem q_shl {t t' : TypeId} {x y : Operand} {k k' : IntKind} {m n r : Int} (hx : opv s.T x = some (.pl (.int k m))) (hy : opv s.T y = some (.pl (.int k' n))) (hr : W.shl k.bits m n = some r) : QOp c ⟨d, .binOp .shl t x y t', ty, pos, af, g⟩ s (.pl (.int k (k.wrap r))) :=
  q_bin hx hy rfl fun w' => by
    unfold W.shl at hr
    cases e : decide (0 ≤ n) with
    | false => rw [e] at hr; cases hr
    | true =>
      rw [e] at hr; cases hr
      have e := of_decide_eq_true e
      simp [binOp, Op.shift, show ¬ n < 0 by omega]
def bitsOf : BinOp → Nat → Int → Int → Option Int
  | .and, b, m, n => some (W.band b m n)
  | .or, b, m, n => some (W.bor b m n)
  | .xor, b, m, n => some (W.bxor b m n)
  | .andNot, b, m, n => some (W.bandn b m n)
  | _, _, _, _ => none
theorem q_bits {op : BinOp} {t t' : TypeId} {x y : Operand} {k : IntKind} {m n r : Int} (hx : opv s.T x = some (.pl (.int k m))) (hy : opv s.T y = some (.pl (.int k n))) (hr : bitsOf op k.bits m n = some r) : QOp c ⟨d, .binOp op t x y t', ty, pos, af, g⟩ s (.pl (.int k (k.wrap r))) :=
  q_int hx hy fun w' => by
    cases op <;> simp only [bitsOf] at hr <;> first | (cases hr; done) | skip
    all_goals
      cases hr
      simp [binOp, Op.intBits, W.band, W.bor, W.bxor, W.bandn]
/-! ### Rows -/
theorem q_capn {t : TypeId} {x : Operand} {ti : TI} {et : TypeId} (ht : tget c.U t = some ti) (htd : ti.desc = .slice et) (hx : opv s.T x = some (.pl (.slice none 0 0))) : QOp c ⟨d, .call { callee := .builtin .cap, args := #[x], argTypes := #[t] }, ty, pos, af, g⟩ s (.pl (.int .i64 0)) := by
  intro a w β hs
  have hu : c.P.underlying t = some (.slice et) := (ty_under ht).trans (congrArg some htd)
  refine ⟨_, .c (.pl _), fun w' _ => ?_⟩
  simp [execOp, resolve, invoke, builtin, Builtin.cap_, hs.pl hx, run_underlying hu, goInt]
end
end Go.Abs
