/-
  MORE OPERATIONS: pointers that may be nil, structs compared, bits, parts of rows, new rows. Generic over the program. Conditions: none.
-/
import Derived.Test.YtebcdmfekidfoaaDoorAbsNil
import Derived.Test.YtebcdmfekidfoaaDoorAbsStruct
import Derived.Laws.MakeOwn
set_option linter.unusedVariables false
set_option linter.unusedSimpArgs false
set_option linter.unusedSectionVars false
namespace Go.Abs
open Go
variable [GTab]
section
variable {c : Ctx} {s : St} {d : Option Tmp} {ty : TypeId} {pos : String} {af : Array Edge} {g : Option (Nat × Bool)}
/-! ### Pointers -/
theorem run_eqptr {P : Program} {t e : TypeId} (ht : P.underlying t = some (.pointer e)) (w : World) (A : Option Addr) : (Op.equal t (.pointer A) (.pointer none)).run P w = .ok A.isNone w := by
  show (Op.equalIn (9999 + 1) t (.pointer A) (.pointer none)).run P w = _
  generalize 9999 = d
  cases A <;> simp [Op.equalIn, run_underlying ht]
theorem q_ptrnil {op : BinOp} {t t' : TypeId} {x : Operand} {ax : AV} {z r : Bool} {ti : TI} {e : TypeId} (ht : tget c.U t = some ti) (htd : ti.desc = .pointer e) (hx : opv s.T x = some ax) (hz : (∃ cs, ax = .optr z cs) ∨ ∃ b o, ax = .nptr z b o)
    (hop : (op = .eql ∧ r = z) ∨ (op = .neq ∧ r = !z)) : QOp c ⟨d, .binOp op t x (.const (.pointer none)) t', ty, pos, af, g⟩ s (.pl (.bool r)) := by
  intro a w β hs
  have hv := hs.op hx
  have key : ∃ A, a.eval x = .pointer A ∧ A.isNone = z := by
    generalize hev : a.eval x = v at hv
    rcases hz with ⟨cs, rfl⟩ | ⟨b, o, rfl⟩
    · cases hv with
      | c h => cases h with
        | vptr _ _ _ _ _ => exact ⟨_, rfl, rfl⟩
        | vnil => exact ⟨_, rfl, rfl⟩
    · cases hv with
      | c h => cases h
      | ptr _ _ => exact ⟨_, rfl, rfl⟩
      | pnil => exact ⟨_, rfl, rfl⟩
  obtain ⟨A, he, hA⟩ := key
  have hu : c.P.underlying t = some (.pointer e) := (ty_under ht).trans (congrArg some htd)
  refine ⟨_, .c (.pl _), fun w' _ => ?_⟩
  have h2 : a.eval (.const (.pointer none)) = .pointer none := rfl
  have h3 : eqGuard op t x (.const (.pointer none)) (.pointer A) (.pointer none) = pure () := by cases op <;> rfl
  rcases hop with ⟨rfl, rfl⟩ | ⟨rfl, rfl⟩
  · have h4 : binOp .eql t (.pointer A) (.pointer none) = (do pure (.bool (← Op.equal t (.pointer A) (.pointer none)))) := rfl
    simp [execOp, he, h2, h3, h4, run_eqptr hu, hA]
  · have h4 : binOp .neq t (.pointer A) (.pointer none) = (do pure (.bool (!(← Op.equal t (.pointer A) (.pointer none))))) := rfl
    simp [execOp, he, h2, h3, h4, run_eqptr hu, hA]
/-- A pointer to an object of one's own, against one to that very place or nil. -/
theorem run_eqptr2 {P : Program} {t e : TypeId} {n : Nat} (ht : P.underlying t = some (.pointer e)) (hn : ∀ w, (sizeOf e).run P w = .ok n w) (hn0 : n ≠ 0) (w : World) (A : Option Addr) (ad : Addr) (h : A = none ∨ A = some ad) : (Op.equal t (.pointer A) (.pointer (some ad))).run P w = .ok (!A.isNone) w := by
  show (Op.equalIn (9999 + 1) t (.pointer A) (.pointer (some ad))).run P w = _
  generalize 9999 = d
  rcases h with rfl | rfl
  · simp [Op.equalIn, run_underlying ht]
  · simp [Op.equalIn, run_underlying ht, hn, hn0, sameAddr]
/-! ### Structs compared -/
inductive FV where
  | i (k : IntKind) (m n : Int)
  | s (l m : List UInt8)
  | b (p q : Bool)
def FV.x : FV → AV
  | .i k m _ => .pl (.int k m)
  | .s l _ => .pl (.string ⟨l.toArray⟩)
  | .b p _ => .pl (.bool p)
def FV.y : FV → AV
  | .i k _ n => .pl (.int k n)
  | .s _ m => .pl (.string ⟨m.toArray⟩)
  | .b _ q => .pl (.bool q)
def FV.xv : FV → Value
  | .i k m _ => .int k m
  | .s l _ => .string ⟨l.toArray⟩
  | .b p _ => .bool p
def FV.yv : FV → Value
  | .i k _ n => .int k n
  | .s _ m => .string ⟨m.toArray⟩
  | .b _ q => .bool q
def FV.r : FV → Bool
  | .i _ m n => m == n
  | .s l m => l == m
  | .b p q => p == q
def FV.desc : FV → TypeDesc → Bool
  | .i k _ _, .int k' => k' == k
  | .s _ _, .string => true
  | .b _ _, .bool => true
  | _, _ => false
def FV.all : List FV → Bool
  | [] => true
  | [f] => f.r
  | f :: l => f.r && FV.all l
def fvOk (U : List (Nat × TI)) : Nat → List Field → List FV → Bool
  | _, [], [] => true
  | o, f :: r, v :: l => Nat.beq f.offset o && ((f.name != "_") && ((match tget U f.type with | some ti => v.desc ti.desc | none => false) && fvOk U (o + 1) r l))
  | _, _, _ => false
theorem FV.all_cons (f : FV) (l : List FV) : FV.all (f :: l) = (f.r && FV.all l) := by
  cases l with
  | nil => simp [FV.all]
  | cons g r => rfl
theorem run_eqFields_fv (d : Nat) (w : World) (vx vy : Array Value) : ∀ (fs : List Field) (o : Nat) (l : List FV), fvOk c.U o fs l = true →
    (∀ (j : Nat) (v : FV), l[j]? = some v → vx[o + j]? = some v.xv) → (∀ (j : Nat) (v : FV), l[j]? = some v → vy[o + j]? = some v.yv) → (Op.eqFields (d + 1) vx vy fs).run c.P w = .ok (FV.all l) w
  | [], o, [], _, _, _ => by simp [Op.eqFields, FV.all]
  | f :: fs, o, v :: l, hB, h1, h2 => by
    simp only [fvOk, Bool.and_eq_true] at hB
    obtain ⟨ho, hn, ht, hr⟩ := hB
    have ho := Nat.eq_of_beq_eq_true ho
    have hn : f.name ≠ "_" := by simpa using hn
    split at ht
    · rename_i ti hti
      have hu := ty_under hti
      have key : (Op.equalIn (d + 1) f.type v.xv v.yv).run c.P w = .ok v.r w ∧ aggD ti.desc = false := by
        cases v with
        | i k m n =>
          cases hd : ti.desc <;> rw [hd] at ht <;> first | cases ht | skip
          rename_i k'
          have hk : k' = k := by simpa [FV.desc] using ht
          subst hk
          exact ⟨run_equalIn_int (P := c.P) w d f.type k' k' m n (hu.trans (congrArg some hd)), rfl⟩
        | s l m =>
          cases hd : ti.desc <;> rw [hd] at ht <;> first | cases ht | skip
          refine ⟨?_, rfl⟩
          have hu' := hu.trans (congrArg some hd)
          have := run_equalIn_string (P := c.P) w d f.type ⟨l.toArray⟩ ⟨m.toArray⟩ hu'
          simp only [ByteArray.toList_eq] at this; exact this
        | b p q =>
          cases hd : ti.desc <;> rw [hd] at ht <;> first | cases ht | skip
          exact ⟨run_equalIn_bool w d p q (hu.trans (congrArg some hd)), rfl⟩
      have e1 := run_part_at hti key.2 (cs := vx) (o := f.offset) (h1 0 v rfl |> fun h => by rw [ho]; exact h) w
      have e2 := run_part_at hti key.2 (cs := vy) (o := f.offset) (h2 0 v rfl |> fun h => by rw [ho]; exact h) w
      have ih := run_eqFields_fv d w vx vy fs (o + 1) l hr
        (fun j n hj => by have := h1 (j + 1) n (by simpa using hj); rwa [show o + 1 + j = o + (j + 1) by omega])
        (fun j n hj => by have := h2 (j + 1) n (by simpa using hj); rwa [show o + 1 + j = o + (j + 1) by omega])
      rw [FV.all_cons]
      simp only [Op.eqFields, hn, ne_eq, not_false_eq_true, if_true, Sem.run_bind, e1, e2, key.1, Result.andThen_ok]
      cases hv : v.r
      · simp
      · simp [ih]
    · cases ht
  | [], _, _ :: _, hB, _, _ => by simp [fvOk] at hB
  | _ :: _, _, [], hB, _, _ => by simp [fvOk] at hB
theorem VRel.fvs {F : Nat → Prop} {β : Emb} {w : World} {f : FV → AV} {u : FV → Value} (hf : ∀ v, f v = .pl (u v)) {l : List FV} {v : Value} (h : VRel F β w (.agg (l.map f)) v) : ∃ vs : Array Value, v = .agg vs ∧ ∀ (j : Nat) (n : FV), l[j]? = some n → vs[j]? = some (u n) := by
  obtain ⟨vs, rfl, _, hall⟩ := h.agg_inv
  refine ⟨vs, rfl, fun j n hj => ?_⟩
  obtain ⟨x, hx, hr⟩ := hall j (.pl (u n)) (by simp [hj, hf])
  obtain rfl := hr.pl_eq
  exact hx
theorem q_eqf {op : BinOp} {t t' : TypeId} {x y : Operand} {l : List FV} {ax ay : AV} {r : Bool} {ti : TI} {fs : Array Field} (hsh : c.P.stoodInHeld t = false) (hgt : c.P.eqGuardType c.P.depth t = false) (ht : tget c.U t = some ti) (hd : ti.desc = .struct fs) (hB : fvOk c.U 0 fs.toList l = true)
    (hx : opv s.T x = some ax) (hax : ax = .agg (l.map FV.x)) (hy : opv s.T y = some ay) (hay : ay = .agg (l.map FV.y))
    (hop : (op = .eql ∧ r = FV.all l) ∨ (op = .neq ∧ r = !(FV.all l))) : QOp c ⟨d, .binOp op t x y t', ty, pos, af, g⟩ s (.pl (.bool r)) := by
  subst hax hay
  intro a w β hs
  obtain ⟨vx, hvx, h1⟩ := (hs.op hx).fvs (u := FV.xv) (fun v => by cases v <;> rfl)
  obtain ⟨vy, hvy, h2⟩ := (hs.op hy).fvs (u := FV.yv) (fun v => by cases v <;> rfl)
  have hu : c.P.underlying t = some (.struct fs) := (ty_under ht).trans (congrArg some hd)
  have hfo : c.P.fieldsOf t = fs := by simp [Program.fieldsOf, hu]
  have he : ∀ w', (Op.equalIn 10000 t (.agg vx) (.agg vy)).run c.P w' = .ok (FV.all l) w' := fun w' => by
    rw [run_equalIn_agg w' 9999 t vx vy (by rw [hfo]; exact hu) hsh, hfo]
    exact run_eqFields_fv 9998 w' vx vy fs.toList 0 l hB (fun j n hj => by simpa using h1 j n hj) (fun j n hj => by simpa using h2 j n hj)
  refine ⟨_, .c (.pl _), fun w' _ => ?_⟩
  have hg := fun op => run_eqGuard_agg (P := c.P) w' op t x y vx vy hgt
  rcases hop with ⟨rfl, rfl⟩ | ⟨rfl, rfl⟩
  · simp [execOp, hvx, hvy, hg, run_eql_struct, he]
  · simp [execOp, hvx, hvy, hg, run_neq_struct, he]
/-! ### Bits -/
theorem q_shr {t t' : TypeId} {x y : Operand} {k k' : IntKind} {m n r : Int} (hx : opv s.T x = some (.pl (.int k m))) (hy : opv s.T y = some (.pl (.int k' n))) (hr : W.shr k.bits m n = some r) : QOp c ⟨d, .binOp .shr t x y t', ty, pos, af, g⟩ s (.pl (.int k r)) :=
  q_bin hx hy rfl fun w' => by
    unfold W.shr at hr
    cases e : decide (0 ≤ n) with
    | false => rw [e] at hr; cases hr
    | true =>
      rw [e] at hr; cases hr
      have e := of_decide_eq_true e
      simp [binOp, Op.shift, show ¬ n < 0 by omega]
theorem q_shl {t t' : TypeId} {x y : Operand} {k k' : IntKind} {m n r : Int} (hx : opv s.T x = some (.pl (.int k m))) (hy : opv s.T y = some (.pl (.int k' n))) (hr : W.shl k.bits m n = some r) : QOp c ⟨d, .binOp .shl t x y t', ty, pos, af, g⟩ s (.pl (.int k (k.wrap r))) :=
  q_bin hx hy rfl fun w' => by
    unfold W.shl at hr
    cases e : decide (0 ≤ n) with
    | false => rw [e] at hr; cases hr
    | true =>
      rw [e] at hr; cases hr
      have e := of_decide_eq_true e
      simp [binOp, Op.shift, show ¬ n < 0 by omega]
def bitsOf : BinOp → Nat → Int → Int → Option Int
  | .and, b, m, n => some (W.band b m n)
  | .or, b, m, n => some (W.bor b m n)
  | .xor, b, m, n => some (W.bxor b m n)
  | .andNot, b, m, n => some (W.bandn b m n)
  | _, _, _, _ => none
theorem q_bits {op : BinOp} {t t' : TypeId} {x y : Operand} {k : IntKind} {m n r : Int} (hx : opv s.T x = some (.pl (.int k m))) (hy : opv s.T y = some (.pl (.int k n))) (hr : bitsOf op k.bits m n = some r) : QOp c ⟨d, .binOp op t x y t', ty, pos, af, g⟩ s (.pl (.int k (k.wrap r))) :=
  q_int hx hy fun w' => by
    cases op <;> simp only [bitsOf] at hr <;> first | (cases hr; done) | skip
    all_goals
      cases hr
      simp [binOp, Op.intBits, W.band, W.bor, W.bxor, W.bandn]
/-! ### Rows -/
theorem q_capn {t : TypeId} {x : Operand} {ti : TI} {et : TypeId} (ht : tget c.U t = some ti) (htd : ti.desc = .slice et) (hx : opv s.T x = some (.pl (.slice none 0 0))) : QOp c ⟨d, .call { callee := .builtin .cap, args := #[x], argTypes := #[t] }, ty, pos, af, g⟩ s (.pl (.int .i64 0)) := by
  intro a w β hs
  have hu : c.P.underlying t = some (.slice et) := (ty_under ht).trans (congrArg some htd)
  refine ⟨_, .c (.pl _), fun w' _ => ?_⟩
  simp [execOp, resolve, invoke, builtin, Builtin.cap_, hs.pl hx, run_underlying hu, goInt]
end
end Go.Abs
