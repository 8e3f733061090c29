/-
  THE PLAIN WORDS in which the functions' worth is written: no program, no memory. Conditions: none.
-/
set_option linter.unusedVariables false
namespace W
universe u v
variable {σ : Type u} {ρ : Type v} {α β : Type}

/-- Rounds, at most so many. -/
def iterN (f : σ → Option (σ ⊕ ρ)) : Nat → σ → Option ρ
  | 0, _ => none
  | n + 1, s => (f s).bind (Sum.elim (iterN f n) some)
/-- The first that is there. -/
noncomputable def lim (g : Nat → Option ρ) : Option ρ := open Classical in if h : ∃ n q, g n = some q then some h.choose_spec.choose else none
theorem lim_some {g : Nat → Option ρ} {q : ρ} (h : lim g = some q) : ∃ n, g n = some q := by
  unfold lim at h
  split at h
  · rename_i e
    cases h
    exact ⟨e.choose, e.choose_spec.choose_spec⟩
  · cases h
theorem lim_of {g : Nat → Option ρ} {q : ρ} (hu : ∀ n q', g n = some q' → q' = q) {n : Nat} (h : g n = some q) : lim g = some q := by
  have e : ∃ n q, g n = some q := ⟨n, q, h⟩
  unfold lim
  rw [dif_pos e]
  exact congrArg some (hu _ _ e.choose_spec.choose_spec)
/-- Rounds, until there is no more. -/
noncomputable def iter (f : σ → Option (σ ⊕ ρ)) (s : σ) : Option ρ := lim fun n => iterN f n s
theorem iterN_mono (f : σ → Option (σ ⊕ ρ)) : ∀ (n m : Nat) (s : σ) (q : ρ), n ≤ m → iterN f n s = some q → iterN f m s = some q
  | 0, m, s, q, _, h => by cases h
  | n + 1, 0, s, q, hl, h => by omega
  | n + 1, m + 1, s, q, hl, h => by
    simp only [iterN] at h ⊢
    cases hf : f s with
    | none => rw [hf] at h; cases h
    | some t =>
      rw [hf] at h
      cases t with
      | inl s' => exact iterN_mono f n m s' q (by omega) h
      | inr q' => exact h
theorem iterN_one (f : σ → Option (σ ⊕ ρ)) {n m : Nat} {s : σ} {q q' : ρ} (h : iterN f n s = some q) (h' : iterN f m s = some q') : q' = q := by
  have h1 := iterN_mono f n (max n m) s q (by omega) h
  have h2 := iterN_mono f m (max n m) s q' (by omega) h'
  rw [h1] at h2; cases h2; rfl
theorem iterN_of {f : σ → Option (σ ⊕ ρ)} {s : σ} {q : ρ} (h : iter f s = some q) : ∃ n, iterN f n s = some q := lim_some h
theorem iter_of {f : σ → Option (σ ⊕ ρ)} {s : σ} {q : ρ} {n : Nat} (h : iterN f n s = some q) : iter f s = some q := lim_of (fun _ _ h' => iterN_one f h h') h
theorem iter_inl {f : σ → Option (σ ⊕ ρ)} {s s' : σ} (h : f s = some (.inl s')) : iter f s = iter f s' := by
  have key : ∀ q, iter f s = some q ↔ iter f s' = some q := fun q => by
    constructor
    · intro hq
      obtain ⟨n, hn⟩ := iterN_of hq
      cases n with
      | zero => cases hn
      | succ n => simp only [iterN, h] at hn; exact iter_of hn
    · intro hq
      obtain ⟨n, hn⟩ := iterN_of hq
      exact iter_of (n := n + 1) (by simp only [iterN, h]; exact hn)
  cases h1 : iter f s with
  | some q => exact ((key q).1 h1).symm
  | none =>
    cases h2 : iter f s' with
    | some q => rw [(key q).2 h2] at h1; cases h1
    | none => rfl
theorem iter_inr {f : σ → Option (σ ⊕ ρ)} {s : σ} {q : ρ} (h : f s = some (.inr q)) : iter f s = some q := iter_of (n := 1) (by simp [iterN, h])
/-- The element at a place, if there is one. -/
def at' (l : List α) (i : Int) : Option α := bif decide (0 ≤ i) then l[i.toNat]? else none
/-- From one place to another one, if they are there. -/
def sub' (l : List α) (i j : Int) : Option (List α) := bif decide (0 ≤ i ∧ i ≤ j ∧ j ≤ l.length) then some ((l.drop i.toNat).take (j.toNat - i.toNat)) else none
/-- Two lists as one, if there is room for it, each element so many bytes. -/
def app (sz : Nat) (l m : List α) : Option (List α) := bif decide ((l.length + m.length) * sz ≤ 140737488355328) then some (l ++ m) else none
/-- Two texts as one. -/
def cat (l m : List UInt8) : Option (List UInt8) := bif decide (l.length + m.length ≤ 9223372036854775807) then some (l ++ m) else none
/-- An element put at a place. -/
def put (l : List α) (i : Int) (a : α) : Option (List α) := bif decide (0 ≤ i ∧ i < l.length) then some (l.set i.toNat a) else none
/-- Is a text ahead of another one? -/
def lt : List UInt8 → List UInt8 → Bool
  | _, [] => false
  | [], _ :: _ => true
  | a :: x, b :: y => a < b || (a == b && lt x y)
abbrev Str := List UInt8
/-- The lesser, the greater of two. -/
def mn (m n : Int) : Int := if n < m then n else m
def mx (m n : Int) : Int := if m < n then n else m
def validRune (c : Nat) : Bool := c < 0xD800 || (0xE000 ≤ c && c ≤ 0x10FFFF)
/-- The character at a place, and how many bytes it has; of what is none, the sign for that, and one. -/
def dec (s : List UInt8) (i : Nat) : Nat × Nat :=
  let at' (k : Nat) : Nat := (s.getD (i + k) 0).toNat
  let cont (k : Nat) : Bool := i + k < s.length && at' k / 64 == 2
  let b0 := at' 0
  if b0 < 0x80 then (b0, 1)
  else if b0 / 32 == 6 && cont 1 then
    let c := (b0 % 32) * 64 + at' 1 % 64
    if c ≥ 0x80 then (c, 2) else (0xFFFD, 1)
  else if b0 / 16 == 14 && cont 1 && cont 2 then
    let c := (b0 % 16) * 4096 + (at' 1 % 64) * 64 + at' 2 % 64
    if c ≥ 0x800 && validRune c then (c, 3) else (0xFFFD, 1)
  else if b0 / 8 == 30 && cont 1 && cont 2 && cont 3 then
    let c := (b0 % 8) * 262144 + (at' 1 % 64) * 4096 + (at' 2 % 64) * 64 + at' 3 % 64
    if c ≥ 0x10000 && validRune c then (c, 4) else (0xFFFD, 1)
  else (0xFFFD, 1)
def u8 (n : Int) : UInt8 := UInt8.ofNat (n % 256).toNat
/-- A number as it fits into so many bits. -/
def wr (signed : Bool) (bits : Nat) (n : Int) : Int :=
  let m := n % (2 ^ bits : Int)
  if signed && m ≥ (2 ^ (bits - 1) : Int) then m - (2 ^ bits : Int) else m
abbrev w64 (n : Int) : Int := wr true 64 n
abbrev w32 (n : Int) : Int := wr true 32 n
abbrev v64 (n : Int) : Int := wr false 64 n
abbrev v32 (n : Int) : Int := wr false 32 n
abbrev v16 (n : Int) : Int := wr false 16 n
abbrev v8 (n : Int) : Int := wr false 8 n
theorem w64_of {n : Int} (h : -9223372036854775808 ≤ n ∧ n < 9223372036854775808) : w64 n = n := by
  have e1 : (2 ^ 64 : Int) = 18446744073709551616 := by decide
  have e2 : (2 ^ 63 : Int) = 9223372036854775808 := by decide
  unfold w64 wr
  simp only [Bool.true_and, decide_eq_true_eq, ge_iff_le, show (64 - 1 : Nat) = 63 from rfl, e1, e2]
  split <;> omega
theorem at'_some {l : List α} {i : Int} {a : α} (h : at' l i = some a) : 0 ≤ i ∧ i < l.length ∧ l[i.toNat]? = some a := by
  unfold at' at h
  cases e : decide (0 ≤ i) with
  | false => rw [e] at h; cases h
  | true =>
    rw [e] at h
    have e : 0 ≤ i := of_decide_eq_true e
    have h : l[i.toNat]? = some a := h
    have := (List.getElem?_eq_some_iff.1 h).1
    exact ⟨e, by omega, h⟩
theorem at'_nat (l : List α) (i : Nat) : at' l (i : Int) = l[i]? := by simp [at']
theorem sub'_some {l m : List α} {i j : Int} (h : sub' l i j = some m) : 0 ≤ i ∧ i ≤ j ∧ j ≤ l.length ∧ m = (l.drop i.toNat).take (j.toNat - i.toNat) := by
  unfold sub' at h
  cases e : decide (0 ≤ i ∧ i ≤ j ∧ j ≤ l.length) with
  | false => rw [e] at h; cases h
  | true => rw [e] at h; cases h; have := of_decide_eq_true e; exact ⟨this.1, this.2.1, this.2.2, rfl⟩
theorem app_some {sz : Nat} {l m r : List α} (h : app sz l m = some r) : (l.length + m.length) * sz ≤ 140737488355328 ∧ r = l ++ m := by
  unfold app at h
  cases e : decide ((l.length + m.length) * sz ≤ 140737488355328) with
  | false => rw [e] at h; cases h
  | true => rw [e] at h; cases h; exact ⟨of_decide_eq_true e, rfl⟩
theorem app_of {sz : Nat} {l m : List α} (h : (l.length + m.length) * sz ≤ 140737488355328) : app sz l m = some (l ++ m) := by simp [app, h]
theorem cat_some {l m r : List UInt8} (h : cat l m = some r) : l.length + m.length ≤ 9223372036854775807 ∧ r = l ++ m := by
  unfold cat at h
  cases e : decide (l.length + m.length ≤ 9223372036854775807) with
  | false => rw [e] at h; cases h
  | true => rw [e] at h; cases h; exact ⟨of_decide_eq_true e, rfl⟩
theorem cat_of {l m : List UInt8} (h : l.length + m.length ≤ 9223372036854775807) : cat l m = some (l ++ m) := by simp [cat, h]
theorem put_some {l r : List α} {i : Int} {a : α} (h : put l i a = some r) : 0 ≤ i ∧ i < l.length ∧ r = l.set i.toNat a := by
  unfold put at h
  cases e : decide (0 ≤ i ∧ i < l.length) with
  | false => rw [e] at h; cases h
  | true => rw [e] at h; cases h; have := of_decide_eq_true e; exact ⟨this.1, this.2, rfl⟩
/-- From one place to another one, the room cut at a third one. -/
def sub3 (l : List α) (i j m : Int) : Option (List α) := bif decide (j ≤ m ∧ m ≤ l.length) then sub' l i j else none
theorem sub3_some {l v : List α} {i j m : Int} (h : sub3 l i j m = some v) : j ≤ m ∧ m ≤ l.length ∧ sub' l i j = some v := by
  unfold sub3 at h
  cases e : decide (j ≤ m ∧ m ≤ l.length) with
  | false => rw [e] at h; cases h
  | true => rw [e] at h; have := of_decide_eq_true e; exact ⟨this.1, this.2, h⟩
/-- Shifts; bit by bit. -/
def shr (bits : Nat) (x y : Int) : Option Int := bif decide (0 ≤ y) then some (x.fdiv (2 ^ (min y.toNat bits))) else none
def shl (bits : Nat) (x y : Int) : Option Int := bif decide (0 ≤ y) then some (x * 2 ^ (min y.toNat bits)) else none
def band (bits : Nat) (x y : Int) : Int := ((BitVec.ofInt bits x) &&& (BitVec.ofInt bits y)).toNat
def bor (bits : Nat) (x y : Int) : Int := ((BitVec.ofInt bits x) ||| (BitVec.ofInt bits y)).toNat
def bxor (bits : Nat) (x y : Int) : Int := ((BitVec.ofInt bits x) ^^^ (BitVec.ofInt bits y)).toNat
def bandn (bits : Nat) (x y : Int) : Int := ((BitVec.ofInt bits x) &&& ~~~(BitVec.ofInt bits y)).toNat
/-- Bounds of a part of what is n long. -/
def rng (n i j : Int) : Option Unit := bif decide (0 ≤ i ∧ i ≤ j ∧ j ≤ n) then some () else none
theorem rng_some {n i j : Int} {u : Unit} (h : rng n i j = some u) : 0 ≤ i ∧ i ≤ j ∧ j ≤ n := by
  unfold rng at h
  cases e : decide (0 ≤ i ∧ i ≤ j ∧ j ≤ n) with
  | false => rw [e] at h; cases h
  | true => exact of_decide_eq_true e
/-- A part of a row, by itself. -/
def prt (l : List α) (o n : Nat) : Option (List α) := bif decide (o + n ≤ l.length) then some ((l.drop o).take n) else none
theorem prt_some {l m : List α} {o n : Nat} (h : prt l o n = some m) : o + n ≤ l.length ∧ m = (l.drop o).take n ∧ m.length = n := by
  unfold prt at h
  cases e : decide (o + n ≤ l.length) with
  | false => rw [e] at h; cases h
  | true =>
    rw [e] at h; cases h
    have e := of_decide_eq_true e
    exact ⟨e, rfl, by simp; omega⟩
/-- So many elements, all z, if there is room for them, each so many bytes. -/
def mk (sz : Nat) (n : Int) (z : α) : Option (List α) := bif decide (0 ≤ n ∧ n * sz ≤ 281474976710656 ∧ n ≤ 9223372036854775807) then some (List.replicate n.toNat z) else none
theorem mk_some {sz : Nat} {n : Int} {z : α} {m : List α} (h : mk sz n z = some m) : 0 ≤ n ∧ n * sz ≤ 281474976710656 ∧ n ≤ 9223372036854775807 ∧ m = List.replicate n.toNat z := by
  unfold mk at h
  cases e : decide (0 ≤ n ∧ n * sz ≤ 281474976710656 ∧ n ≤ 9223372036854775807) with
  | false => rw [e] at h; cases h
  | true => rw [e] at h; cases h; have := of_decide_eq_true e; exact ⟨this.1, this.2.1, this.2.2, rfl⟩
end W
