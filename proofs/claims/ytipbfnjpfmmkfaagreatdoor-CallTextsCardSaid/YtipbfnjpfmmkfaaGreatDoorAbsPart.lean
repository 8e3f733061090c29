/-
  PARTS OF ROWS: shortened, cleared, made. Generic over the program. Conditions: none.
-/
import Derived.Test.YtipbfnjpfmmkfaaGreatDoorAbsMore
set_option linter.unusedVariables false
set_option linter.unusedSimpArgs false
set_option linter.unusedSectionVars false
namespace Go.Abs
open Go
variable [GTab]
/-! ### A row seen shorter -/
/-- A box's cells seen as weaker ones. -/
theorem Sat.weakbox {tb : TypeId} {c : Ctx} {T : List (Nat × AV)} {H : List (Nat × AObj)} {M : List Nat} {a : Act} {w : World} (h : Sat c ⟨T, H, M⟩ a w) {b : Nat} {cs ds : List AV} (hb : hget H b = some (.box tb cs)) (hl : ds.length = cs.length) (hle : ∀ (i : Nat) (x y : AV), cs[i]? = some x → ds[i]? = some y → AV.Le x y) : Sat c ⟨T, hset H b (.box tb ds), M⟩ a w := by
  obtain ⟨β, hs⟩ := h
  obtain ⟨p, hp, hn, hr⟩ := hs.heap.obj b _ hb
  have ho : ORel c.F β w p (.box tb ds) := by
    obtain ⟨cv, fr, hcv, h5, h6, h7⟩ := hr
    refine ⟨hn, cv, fr, hcv, by rw [hl]; exact h5, fun i z hz => ?_, h7⟩
    have hi := (List.getElem?_eq_some_iff.1 hz).1
    have hx : cs[i]? = some cs[i] := by simp [hl ▸ hi]
    obtain ⟨v, hv, hr, h1⟩ := h6 i _ hx
    exact ⟨v, hv, hle i _ _ hx hz _ _ _ _ hr, h1⟩
  refine ⟨β, hs.defers, hs.size, ⟨fun i ob hg => ?_, fun i q hq => ?_, hs.heap.inj, hs.heap.fresh, hs.heap.apart, hs.heap.glob⟩, hs.slot, hs.keeps, hs.stay⟩
  · rw [hget_hset] at hg
    by_cases e : b = i
    · rw [if_pos e] at hg; cases hg; subst e; exact ⟨p, hp, ho⟩
    · rw [if_neg e] at hg; exact hs.heap.obj i ob hg
  · rw [hget_hset]
    by_cases e : b = i
    · rw [if_pos e]; exact ⟨_, rfl⟩
    · rw [if_neg e]; exact hs.heap.dom i q hq
/-- A new row, not all of it seen. -/
theorem SatB.newrow2 {c : Ctx} {s : St} {β : Emb} {a : Act} {w w1 : World} (hs : SatB c s β a w) (hb1 : BelowD w w1) {b : Nat} (hb : hget s.H b = none) (cells : Array Value) (e : TypeId) {k n cap : Nat} {cs : List AV} (hl : cs.length ≤ cells.size) (hcap : n ≤ cap) (hsz : cells.size = cap * k)
    (h : ∀ (i : Nat) (y : AV), cs[i]? = some y → ∃ u, cells[i]? = some u ∧ CRel (off c.F β) w y u ∧ u.oneCell' = true) :
    ∃ β', SatB c ⟨s.T, (b, .row e k 0 cs) :: s.H, s.M⟩ β' a (w1.alloc (.cells cells e (0, 0))) ∧ VRel c.F β' (w1.alloc (.cells cells e (0, 0))) (.sl b 0 n) (.slice (some ⟨w1.heap.size, 0, none⟩) n cap) := by
  have hs := hs.later hb1
  let p : Place := ⟨w1.heap.size, 0, cells.size, k, false⟩
  have hO : ∀ k, off c.F (upd β b p) k → off c.F β k ∨ w1.heap.size ≤ k := by
    rintro k (hk | ⟨i, q, hq, hqn, rfl⟩)
    · exact .inl (.inl hk)
    · rcases upd_some hq with ⟨rfl, rfl⟩ | ⟨_, hq⟩
      · exact .inr (Nat.le_refl _)
      · exact .inl (.inr ⟨i, q, hq, hqn, rfl⟩)
  refine ⟨upd β b p, hs.newobj hb p (.inl rfl) (fun _ => ⟨Nat.le_refl _, by simp [p]⟩) (But.alloc _ _) ?_, ?_⟩
  · refine ⟨rfl, (fun h => by cases h), fun _ => ⟨cells, (0, 0), heap_alloc_at _ _, rfl, by simp [p]; omega, fun i y hy => ?_, fun o ho h1 h2 => by simp at h2⟩⟩
    obtain ⟨u, hu, hr, h1⟩ := h i y hy
    refine ⟨u, by simp [p, hu], ?_, h1⟩
    have hr1 : CRel (off c.F β) w1 y u := hr.mono hb1.1.size (fun k hk => .inl hk) (fun k hk _ => hb1.1.block k hk)
    exact hr1.mono (by simp) hO (fun k hk _ => RowKit.Below.heap_alloc _ _ _ hk)
  · exact .sl (p := p) (upd_same _ _ _) rfl hcap (by show 0 + 0 + cap * k ≤ cells.size; omega)

/-! ### Zero values, so many -/
theorem made_get {z : Array Value} {n : Nat} {i : Nat} (hi : i < n) (hz : 0 < z.size) : ∃ u, z[i % z.size]? = some u ∧ (madeCells z n)[i]? = some u := by
  have h := Nat.mod_lt i hz
  refine ⟨z[i % z.size]'h, by simp [h], ?_⟩
  unfold madeCells
  simp [hi, h]
theorem flat_rep {α : Type} (x : List α) : ∀ (n i : Nat), i < n * x.length → ((List.replicate n x).flatMap id)[i]? = x[i % x.length]?
  | 0, i, h => by omega
  | n + 1, i, h => by
    rw [List.replicate_succ, List.flatMap_cons]
    by_cases hi : i < x.length
    · rw [show id x = x from rfl, List.getElem?_append_left hi, Nat.mod_eq_of_lt hi]
    · rw [show id x = x from rfl, List.getElem?_append_right (by omega)]
      have hle : x.length ≤ i := by omega
      rw [flat_rep x n (i - x.length) (by rw [Nat.add_mul, Nat.one_mul] at h; omega)]
      congr 1
      conv => rhs; rw [← Nat.sub_add_cancel hle]
      rw [Nat.add_mod_right]
section
variable {c : Ctx} {s : St} {d : Option Tmp} {ty : TypeId} {pos : String} {af : Array Edge} {g : Option (Nat × Bool)}
/-- The cells of n zero values, one behind the other. -/
theorem zeros_rel {F : Nat → Prop} {β : Emb} {w : World} {z : Value} {zs : List AV} {k n : Nat} (hcs : cellsA (ofVal z) = zs) (hf : fit (ofVal z) = true) (hcl : AV.closedL zs = true) (hk : zs.length = k) (i : Nat) (y : AV) (hy : ((List.replicate n zs).flatMap id)[i]? = some y) :
    ∃ u, z.cells[i % k]? = some u ∧ CRel (off F β) w y u ∧ u.oneCell' = true := by
  subst hk
  have hlen : ((List.replicate n zs).flatMap id).length = n * zs.length := by
    clear hy
    induction n with
    | zero => simp
    | succ n ih => rw [List.replicate_succ, List.flatMap_cons, List.length_append, ih, Nat.add_mul, Nat.one_mul, Nat.add_comm]; rfl
  have hi := (List.getElem?_eq_some_iff.1 hy).1
  rw [hlen] at hi
  rw [flat_rep zs n i hi] at hy
  have hz : VRel F β w (ofVal z) z := .c (CRel.ofVal _ _ _)
  obtain ⟨hl, h⟩ := hz.cells hf
  rw [hcs] at hl h
  obtain ⟨u, hu, hr, h1⟩ := h _ y hy
  exact ⟨u, hu, hr.closed (AV.closedL_get hcl hy), h1⟩
theorem e_makeSlice {t : TypeId} {x y : Operand} {kx ky : IntKind} {l m : Int} {zs : List AV} {ti ei : TI} {e k : Nat} (ht : tget c.U t = some ti) (htd : ti.desc = .slice e) (he : tget c.U e = some ei) (hk : ei.size = k) (hk0 : 0 < k) (hx : opv s.T x = some (.pl (.int kx l))) (hy : opv s.T y = some (.pl (.int ky m)))
    (hcs : cellsA (ofVal ei.zero) = zs) (hf : fit (ofVal ei.zero) = true) (hcl : AV.closedL zs = true) (hzl : zs.length = k) (h0 : 0 ≤ l) (hlm : l ≤ m) (hby : m * ei.bytes ≤ 281474976710656) (h63 : m ≤ 9223372036854775807) (hb : hget s.H (nm d) = none) (hd : dstOk c.N d = true) :
    EOpB c ⟨d, .makeSlice t x y, ty, pos, af, g⟩ s ⟨putT s.T d (.sl (nm d) 0 l.toNat), (nm d, .row e k 0 ((List.replicate l.toNat zs).flatMap id)) :: s.H, s.M⟩ := by
  intro a w β hs
  have hu : c.P.underlying t = some (.slice e) := (ty_under ht).trans (congrArg some htd)
  obtain ⟨i, hi, hi1, hi2, hi3⟩ := ty_info he
  have hzsz : ei.zero.cells.size = k := by
    have hz : VRel c.F β w (ofVal ei.zero) ei.zero := .c (CRel.ofVal _ _ _)
    have := (hz.cells hf).1
    rw [hcs, hzl] at this; exact this.symm
  have hrun := run_make (P := c.P) w t e i ei.zero hu hi hi3 kx ky l m h0 hlm (by rw [hi2, Int.mul_comm]; exact hby) h63
  obtain ⟨β', hs', hr⟩ := hs.newrow2 (BelowD.refl _) hb (madeCells ei.zero.cells (m.toNat * i.size)) e (k := k) (n := l.toNat) (cap := m.toNat) (cs := (List.replicate l.toNat zs).flatMap id)
    (by
      rw [size_madeCells, hi1, hk]
      have : ((List.replicate l.toNat zs).flatMap id).length = l.toNat * k := by
        generalize l.toNat = q
        induction q with
        | zero => simp
        | succ n ih => rw [List.replicate_succ, List.flatMap_cons, List.length_append, ih, Nat.add_mul, Nat.one_mul, Nat.add_comm, ← hzl]; rfl
      rw [this]
      exact Nat.mul_le_mul_right _ (by omega)) (by omega) (by rw [size_madeCells, hi1, hk]) (fun j y hy => by
    obtain ⟨u, hu1, hr, h1⟩ := zeros_rel (F := c.F) (β := β) (w := w) hcs hf hcl hzl j y hy
    have hj : j < m.toNat * i.size := by
      have := (List.getElem?_eq_some_iff.1 hy).1
      have h2 : ((List.replicate l.toNat zs).flatMap id).length = l.toNat * k := by
        generalize l.toNat = q
        induction q with
        | zero => simp
        | succ n ih => rw [List.replicate_succ, List.flatMap_cons, List.length_append, ih, Nat.add_mul, Nat.one_mul, Nat.add_comm, ← hzl]; rfl
      rw [h2] at this
      rw [hi1, hk]
      exact Nat.lt_of_lt_of_le this (Nat.mul_le_mul_right _ (by omega))
    obtain ⟨u', hu', hm⟩ := made_get (z := ei.zero.cells) hj (by rw [hzsz]; exact hk0)
    rw [hzsz, hu1] at hu'; cases hu'
    exact ⟨u, hm, hr, h1⟩)
  refine ⟨_, β', below_alloc _ _, _, ?_, hs'.put hd hr⟩
  simp [execOp, hs.pl hx, hs.pl hy, hrun]
end
end Go.Abs
