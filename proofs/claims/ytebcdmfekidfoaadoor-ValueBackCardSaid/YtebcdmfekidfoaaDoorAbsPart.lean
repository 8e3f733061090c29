/-
  PARTS OF ROWS: shortened, cleared, made. Generic over the program. Conditions: none.
-/
import Derived.Test.YtebcdmfekidfoaaDoorAbsMore
set_option linter.unusedVariables false
set_option linter.unusedSimpArgs false
set_option linter.unusedSectionVars false
namespace Go.Abs
open Go
variable [GTab]
/-! ### A row seen shorter -/
theorem Sat.shrink {c : Ctx} {T : List (Nat × AV)} {H : List (Nat × AObj)} {M : List Nat} {a : Act} {w : World} (h : Sat c ⟨T, H, M⟩ a w) {b k fz m : Nat} {cs ds : List AV} (hb : hget H b = some (.row k fz cs)) (hds : cs.take m = ds) : Sat c ⟨T, hset H b (.row k fz ds), M⟩ a w := by
  obtain ⟨β, hs⟩ := h
  obtain ⟨p, hp, hk, hnil, hr⟩ := hs.heap.obj b _ hb
  subst hds
  have ho : ORel c.F β w p (.row k fz (cs.take m)) := by
    refine ⟨hk, fun hn => by rw [hnil hn]; simp, fun hn => ?_⟩
    obtain ⟨cv, fr, hcv, hlim, h5, h6, h7⟩ := hr hn
    refine ⟨cv, fr, hcv, hlim, by simp; omega, fun i z hz => ?_, h7⟩
    have hi := (List.getElem?_eq_some_iff.1 hz).1
    simp at hi
    rw [List.getElem?_take_of_lt (by omega)] at hz
    exact h6 i z hz
  refine ⟨β, hs.defers, hs.size, ⟨fun i ob hg => ?_, fun i q hq => ?_, hs.heap.inj, hs.heap.fresh, hs.heap.apart, hs.heap.glob⟩, hs.slot, hs.keeps, hs.stay⟩
  · rw [hget_hset] at hg
    by_cases e : b = i
    · rw [if_pos e] at hg; cases hg; subst e; exact ⟨p, hp, ho⟩
    · rw [if_neg e] at hg; exact hs.heap.obj i ob hg
  · rw [hget_hset]
    by_cases e : b = i
    · rw [if_pos e]; exact ⟨_, rfl⟩
    · rw [if_neg e]; exact hs.heap.dom i q hq
/-- A box's cells seen as weaker ones. -/
theorem Sat.weakbox {c : Ctx} {T : List (Nat × AV)} {H : List (Nat × AObj)} {M : List Nat} {a : Act} {w : World} (h : Sat c ⟨T, H, M⟩ a w) {b : Nat} {cs ds : List AV} (hb : hget H b = some (.box cs)) (hl : ds.length = cs.length) (hle : ∀ (i : Nat) (x y : AV), cs[i]? = some x → ds[i]? = some y → AV.Le x y) : Sat c ⟨T, hset H b (.box ds), M⟩ a w := by
  obtain ⟨β, hs⟩ := h
  obtain ⟨p, hp, hn, hr⟩ := hs.heap.obj b _ hb
  have ho : ORel c.F β w p (.box ds) := by
    obtain ⟨cv, fr, hcv, h5, h6, h7⟩ := hr
    refine ⟨hn, cv, fr, hcv, by rw [hl]; exact h5, fun i z hz => ?_, h7⟩
    have hi := (List.getElem?_eq_some_iff.1 hz).1
    have hx : cs[i]? = some cs[i] := by simp [hl ▸ hi]
    obtain ⟨v, hv, hr, h1⟩ := h6 i _ hx
    exact ⟨v, hv, hle i _ _ hx hz _ _ _ _ hr, h1⟩
  refine ⟨β, hs.defers, hs.size, ⟨fun i ob hg => ?_, fun i q hq => ?_, hs.heap.inj, hs.heap.fresh, hs.heap.apart, hs.heap.glob⟩, hs.slot, hs.keeps, hs.stay⟩
  · rw [hget_hset] at hg
    by_cases e : b = i
    · rw [if_pos e] at hg; cases hg; subst e; exact ⟨p, hp, ho⟩
    · rw [if_neg e] at hg; exact hs.heap.obj i ob hg
  · rw [hget_hset]
    by_cases e : b = i
    · rw [if_pos e]; exact ⟨_, rfl⟩
    · rw [if_neg e]; exact hs.heap.dom i q hq
theorem Sat.nilbox {c : Ctx} {T : List (Nat × AV)} {H : List (Nat × AObj)} {M : List Nat} {a : Act} {w : World} (h : Sat c ⟨T, H, M⟩ a w) {b : Nat} {cs : List AV} (hb : hget H b = some (.box cs)) : Sat c ⟨T, hset H b (.box (nilNL cs)), M⟩ a w :=
  h.weakbox hb (nilNL_length cs) fun i x y hx hy => by
    obtain ⟨x', hx', rfl⟩ := nilNL_get _ _ _ hy
    rw [hx] at hx'; cases hx'
    exact nilN_le x
/-- A new row, not all of it seen. -/
theorem SatB.newrow2 {c : Ctx} {s : St} {β : Emb} {a : Act} {w w1 : World} (hs : SatB c s β a w) (hb1 : BelowD w w1) {b : Nat} (hb : hget s.H b = none) (cells : Array Value) (e : TypeId) {k n cap : Nat} {cs : List AV} (hl : cs.length ≤ cells.size) (hcap : n ≤ cap) (hsz : cells.size = cap * k)
    (h : ∀ (i : Nat) (y : AV), cs[i]? = some y → ∃ u, cells[i]? = some u ∧ CRel (off c.F β) w y u ∧ u.oneCell' = true) :
    ∃ β', SatB c ⟨s.T, (b, .row k 0 cs) :: s.H, s.M⟩ β' a (w1.alloc (.cells cells e (0, 0))) ∧ VRel c.F β' (w1.alloc (.cells cells e (0, 0))) (.sl b 0 n) (.slice (some ⟨w1.heap.size, 0, none⟩) n cap) := by
  have hs := hs.later hb1
  let p : Place := ⟨w1.heap.size, 0, cells.size, k, false⟩
  have hO : ∀ k, off c.F (upd β b p) k → off c.F β k ∨ w1.heap.size ≤ k := by
    rintro k (hk | ⟨i, q, hq, hqn, rfl⟩)
    · exact .inl (.inl hk)
    · rcases upd_some hq with ⟨rfl, rfl⟩ | ⟨_, hq⟩
      · exact .inr (Nat.le_refl _)
      · exact .inl (.inr ⟨i, q, hq, hqn, rfl⟩)
  refine ⟨upd β b p, hs.newobj hb p (.inl rfl) (fun _ => ⟨Nat.le_refl _, by simp [p]⟩) (But.alloc _ _) ?_, ?_⟩
  · refine ⟨rfl, (fun h => by cases h), fun _ => ⟨cells, (0, 0), ⟨e, heap_alloc_at _ _⟩, rfl, by simp [p]; omega, fun i y hy => ?_, fun o ho h1 h2 => by simp at h2⟩⟩
    obtain ⟨u, hu, hr, h1⟩ := h i y hy
    refine ⟨u, by simp [p, hu], ?_, h1⟩
    have hr1 : CRel (off c.F β) w1 y u := hr.mono hb1.1.size (fun k hk => .inl hk) (fun k hk _ => hb1.1.block k hk)
    exact hr1.mono (by simp) hO (fun k hk _ => RowKit.Below.heap_alloc _ _ _ hk)
  · exact .sl (p := p) (upd_same _ _ _) rfl hcap (by show 0 + 0 + cap * k ≤ cells.size; omega)

/-! ### Zero values, so many -/
theorem made_get {z : Array Value} {n : Nat} {i : Nat} (hi : i < n) (hz : 0 < z.size) : ∃ u, z[i % z.size]? = some u ∧ (madeCells z n)[i]? = some u := by
  have h := Nat.mod_lt i hz
  refine ⟨z[i % z.size]'h, by simp [h], ?_⟩
  unfold madeCells
  simp [hi, h]
theorem flat_rep {α : Type} (x : List α) : ∀ (n i : Nat), i < n * x.length → ((List.replicate n x).flatMap id)[i]? = x[i % x.length]?
  | 0, i, h => by omega
  | n + 1, i, h => by
    rw [List.replicate_succ, List.flatMap_cons]
    by_cases hi : i < x.length
    · rw [show id x = x from rfl, List.getElem?_append_left hi, Nat.mod_eq_of_lt hi]
    · rw [show id x = x from rfl, List.getElem?_append_right (by omega)]
      have hle : x.length ≤ i := by omega
      rw [flat_rep x n (i - x.length) (by rw [Nat.add_mul, Nat.one_mul] at h; omega)]
      congr 1
      conv => rhs; rw [← Nat.sub_add_cancel hle]
      rw [Nat.add_mod_right]
section
variable {c : Ctx} {s : St} {d : Option Tmp} {ty : TypeId} {pos : String} {af : Array Edge} {g : Option (Nat × Bool)}
/-- The cells of n zero values, one behind the other. -/
theorem zeros_rel {F : Nat → Prop} {β : Emb} {w : World} {z : Value} {zs : List AV} {k n : Nat} (hcs : cellsA (ofVal z) = zs) (hf : fit (ofVal z) = true) (hcl : AV.closedL zs = true) (hk : zs.length = k) (i : Nat) (y : AV) (hy : ((List.replicate n zs).flatMap id)[i]? = some y) :
    ∃ u, z.cells[i % k]? = some u ∧ CRel (off F β) w y u ∧ u.oneCell' = true := by
  subst hk
  have hlen : ((List.replicate n zs).flatMap id).length = n * zs.length := by
    clear hy
    induction n with
    | zero => simp
    | succ n ih => rw [List.replicate_succ, List.flatMap_cons, List.length_append, ih, Nat.add_mul, Nat.one_mul, Nat.add_comm]; rfl
  have hi := (List.getElem?_eq_some_iff.1 hy).1
  rw [hlen] at hi
  rw [flat_rep zs n i hi] at hy
  have hz : VRel F β w (ofVal z) z := .c (CRel.ofVal _ _ _)
  obtain ⟨hl, h⟩ := hz.cells hf
  rw [hcs] at hl h
  obtain ⟨u, hu, hr, h1⟩ := h _ y hy
  exact ⟨u, hu, hr.closed (AV.closedL_get hcl hy), h1⟩
theorem e_makeSlice {t : TypeId} {x y : Operand} {kx ky : IntKind} {l m : Int} {zs : List AV} {ti ei : TI} {e k : Nat} (ht : tget c.U t = some ti) (htd : ti.desc = .slice e) (he : tget c.U e = some ei) (hk : ei.size = k) (hk0 : 0 < k) (hx : opv s.T x = some (.pl (.int kx l))) (hy : opv s.T y = some (.pl (.int ky m)))
    (hcs : cellsA (ofVal ei.zero) = zs) (hf : fit (ofVal ei.zero) = true) (hcl : AV.closedL zs = true) (hzl : zs.length = k) (h0 : 0 ≤ l) (hlm : l ≤ m) (hby : m * ei.bytes ≤ 281474976710656) (h63 : m ≤ 9223372036854775807) (hb : hget s.H (nm d) = none) (hd : dstOk c.N d = true) :
    EOpB c ⟨d, .makeSlice t x y, ty, pos, af, g⟩ s ⟨putT s.T d (.sl (nm d) 0 l.toNat), (nm d, .row k 0 ((List.replicate l.toNat zs).flatMap id)) :: s.H, s.M⟩ := by
  intro a w β hs
  have hu : c.P.underlying t = some (.slice e) := (ty_under ht).trans (congrArg some htd)
  obtain ⟨i, hi, hi1, hi2, hi3⟩ := ty_info he
  have hzsz : ei.zero.cells.size = k := by
    have hz : VRel c.F β w (ofVal ei.zero) ei.zero := .c (CRel.ofVal _ _ _)
    have := (hz.cells hf).1
    rw [hcs, hzl] at this; exact this.symm
  have hrun := run_make (P := c.P) w t e i ei.zero hu hi hi3 kx ky l m h0 hlm (by rw [hi2, Int.mul_comm]; exact hby) h63
  obtain ⟨β', hs', hr⟩ := hs.newrow2 (BelowD.refl _) hb (madeCells ei.zero.cells (m.toNat * i.size)) e (k := k) (n := l.toNat) (cap := m.toNat) (cs := (List.replicate l.toNat zs).flatMap id)
    (by
      rw [size_madeCells, hi1, hk]
      have : ((List.replicate l.toNat zs).flatMap id).length = l.toNat * k := by
        generalize l.toNat = q
        induction q with
        | zero => simp
        | succ n ih => rw [List.replicate_succ, List.flatMap_cons, List.length_append, ih, Nat.add_mul, Nat.one_mul, Nat.add_comm, ← hzl]; rfl
      rw [this]
      exact Nat.mul_le_mul_right _ (by omega)) (by omega) (by rw [size_madeCells, hi1, hk]) (fun j y hy => by
    obtain ⟨u, hu1, hr, h1⟩ := zeros_rel (F := c.F) (β := β) (w := w) hcs hf hcl hzl j y hy
    have hj : j < m.toNat * i.size := by
      have := (List.getElem?_eq_some_iff.1 hy).1
      have h2 : ((List.replicate l.toNat zs).flatMap id).length = l.toNat * k := by
        generalize l.toNat = q
        induction q with
        | zero => simp
        | succ n ih => rw [List.replicate_succ, List.flatMap_cons, List.length_append, ih, Nat.add_mul, Nat.one_mul, Nat.add_comm, ← hzl]; rfl
      rw [h2] at this
      rw [hi1, hk]
      exact Nat.lt_of_lt_of_le this (Nat.mul_le_mul_right _ (by omega))
    obtain ⟨u', hu', hm⟩ := made_get (z := ei.zero.cells) hj (by rw [hzsz]; exact hk0)
    rw [hzsz, hu1] at hu'; cases hu'
    exact ⟨u, hm, hr, h1⟩)
  refine ⟨_, β', below_alloc _ _, _, ?_, hs'.put hd hr⟩
  simp [execOp, hs.pl hx, hs.pl hy, hrun]
/-- A row's part is made zero. -/
theorem e_clear {t : TypeId} {x : Operand} {b o n k fz : Nat} {cs zs : List AV} {ti ei : TI} {e : Nat} (ht : tget c.U t = some ti) (htd : ti.desc = .slice e) (he : tget c.U e = some ei) (hk : ei.size = k) (hx : opv s.T x = some (.sl b o n)) (hb : hget s.H b = some (.row k fz cs)) (hfz : fz ≤ o) (hin : o + n * k ≤ cs.length)
    (hcs : cellsA (ofVal ei.zero) = zs) (hf : fit (ofVal ei.zero) = true) (hcl : AV.closedL zs = true) (hzl : zs.length = k) (hk0 : 0 < k) (hd : d = none) :
    EOp c ⟨d, .call { callee := .builtin .clear, args := #[x], argTypes := #[t] }, ty, pos, af, g⟩ s ⟨s.T, hset s.H b (.row k fz (updL cs o ((List.replicate n zs).flatMap id))), s.M⟩ := by
  intro a w β hs
  subst hd
  have hu : c.P.underlying t = some (.slice e) := (ty_under ht).trans (congrArg some htd)
  have hlen : ((List.replicate n zs).flatMap id).length = n * k := by
    clear hin hx
    induction n with
    | zero => simp
    | succ n ih => rw [List.replicate_succ, List.flatMap_cons, List.length_append, ih, Nat.add_mul, Nat.one_mul, Nat.add_comm, ← hzl]; rfl
  obtain ⟨p, hp, hcase⟩ := (hs.op hx).sl_inv
  obtain ⟨p', hp', hk', hnil, hr⟩ := hs.heap.obj b _ hb
  rw [hp] at hp'; cases hp'
  have hstay : n = 0 → ∀ v, a.eval x = .slice v 0 0 ∨ (∃ cap, a.eval x = .slice v 0 cap) → ∃ w' β', (∃ v, (execOp a.eval (⟨none, .call { callee := .builtin .clear, args := #[x], argTypes := #[t] }, ty, pos, af, g⟩ : Oper)).run c.P w = .ok (.value v) w' ∧ SatB c ⟨s.T, hset s.H b (.row k fz (updL cs o ((List.replicate n zs).flatMap id))), s.M⟩ β' (a.put none v) w') ∨ ((execOp a.eval (⟨none, .call { callee := .builtin .clear, args := #[x], argTypes := #[t] }, ty, pos, af, g⟩ : Oper)).run c.P w = .ok .skip w' ∧ SatB c ⟨s.T, hset s.H b (.row k fz (updL cs o ((List.replicate n zs).flatMap id))), s.M⟩ β' (a.put none undef) w') := by
    intro hn0 v hv
    subst hn0
    have hev : ∃ cap, a.eval x = .slice v 0 cap := hv.elim (fun h => ⟨0, h⟩) id
    obtain ⟨cap, hev⟩ := hev
    have hrun : (Builtin.clear_ #[t] ty #[.slice v 0 cap]).run c.P w = .ok (.tuple #[]) w := by
      cases v <;> simp [Builtin.clear_, run_underlying hu]
    refine ⟨w, β, .inl ⟨.tuple #[], by simp [execOp, resolve, invoke, builtin, hev, hrun], ?_⟩⟩
    have e0 : updL cs o ((List.replicate 0 zs).flatMap id) = cs := by simp [updL]
    rw [e0]
    refine ⟨hs.defers, hs.size, ⟨fun i ob hg => ?_, fun i q hq => ?_, hs.heap.inj, hs.heap.fresh, hs.heap.apart, hs.heap.glob⟩, hs.slot, hs.keeps, hs.stay⟩
    · rw [hget_hset] at hg
      by_cases e : b = i
      · rw [if_pos e] at hg; cases hg; subst e; exact hs.heap.obj _ _ hb
      · rw [if_neg e] at hg; exact hs.heap.obj i ob hg
    · rw [hget_hset]
      by_cases e : b = i
      · rw [if_pos e]; exact ⟨_, rfl⟩
      · rw [if_neg e]; exact hs.heap.dom i q hq
  rcases hcase with ⟨hn, cap, hv, hcap, hlim⟩ | ⟨rfl, A0, hv⟩
  · by_cases hn0 : n = 0
    · subst hn0; exact hstay rfl _ (.inr ⟨cap, hv⟩)
    · obtain ⟨cv, fr, hcv, hlim', h5, h6, h7⟩ := hr hn
      let us : List Value := (Builtin.zeroCells ei.zero.cells n).toList
      have hzsz : ei.zero.cells.size = k := by
        have hz : VRel c.F β w (ofVal ei.zero) ei.zero := .c (CRel.ofVal _ _ _)
        have := (hz.cells hf).1
        rw [hcs, hzl] at this; exact this.symm
      have hul : us.length = n * k := by simp [us, size_zeroCells, hzsz]
      have hget : ∀ (i : Nat) (y : AV), ((List.replicate n zs).flatMap id)[i]? = some y → ∃ u, us[i]? = some u ∧ CRel (off c.F β) w y u ∧ u.oneCell' = true := fun i y hy => by
        obtain ⟨u, hu1, hr, h1⟩ := zeros_rel (F := c.F) (β := β) (w := w) hcs hf hcl hzl i y hy
        have hi : i < n * k := by rw [← hlen]; exact (List.getElem?_eq_some_iff.1 hy).1
        refine ⟨u, ?_, hr, h1⟩
        have : madeCells ei.zero.cells (n * ei.zero.cells.size) = Builtin.zeroCells ei.zero.cells n := by simp [madeCells, Builtin.zeroCells]
        obtain ⟨u', hu', hm⟩ := made_get (z := ei.zero.cells) (n := n * ei.zero.cells.size) (i := i) (by rw [hzsz]; exact hi) (by rw [hzsz]; exact hk0)
        rw [hzsz, hu1] at hu'; cases hu'
        rw [this] at hm
        simp only [us]
        rw [Array.getElem?_toList]; exact hm
      have h1 : ∀ u ∈ us, u.oneCell' = true := fun u hu => by
        obtain ⟨i, hi⟩ := List.getElem?_of_mem hu
        have hi' : i < ((List.replicate n zs).flatMap id).length := by rw [hlen, ← hul]; exact (List.getElem?_eq_some_iff.1 hi).1
        obtain ⟨u', hu', _, h1⟩ := hget i _ (List.getElem?_eq_getElem hi')
        rw [hi] at hu'; cases hu'; exact h1
      have hst : (storeCells ⟨p.blk, p.st + o, none⟩ us 0).run c.P w = .ok () (w.setCells p.blk (p.st + o) us) := by
        obtain ⟨t', ht'⟩ := hcv
        have := run_storeCells_cells (P := c.P) p.blk (p.st + o) us 0 w (fun j hj => by
            rw [hul] at hj
            simp [World.cell?, ht']
            omega) (fun j hj => by
            rw [hul] at hj
            have h7' := h7 (p.st + o + 0 + j) (by omega)
            obtain ⟨lo, hi⟩ := fr
            simp only [World.frozen?, ht', Bool.and_eq_false_iff, decide_eq_false_iff_not]
            by_cases q : lo ≤ p.st + o + 0 + j
            · by_cases q2 : p.st + o + 0 + j < hi
              · have := h7' q q2; omega
              · exact .inr q2
            · exact .inl q) h1
        simpa using this
      have hrun : (Builtin.clear_ #[t] ty #[.slice (some ⟨p.blk, p.st + o, none⟩) n cap]).run c.P w = .ok (.tuple #[]) (w.setCells p.blk (p.st + o) us) := by
        obtain ⟨m, rfl⟩ : ∃ m, n = m + 1 := ⟨n - 1, by omega⟩
        simp only [us] at hst
        simp [Builtin.clear_, run_underlying hu, ty_zero he, hst, us]
      have hbut := But.setCells p.blk us (p.st + o) w
      have hw : ∀ k, k < w.heap.size → ¬ off c.F β k → (w.setCells p.blk (p.st + o) us).heap[k]? = w.heap[k]? := fun k hk hno => hbut.block k hk (fun e => hno (.inr ⟨b, p, hp, hn, e.symm⟩))
      refine ⟨w.setCells p.blk (p.st + o) us, β, .inl ⟨.tuple #[], by simp [execOp, resolve, invoke, builtin, hv, hrun], ?_⟩⟩
      refine hs.setobj hp hn hbut ⟨hk', fun h => (by rw [hn] at h; cases h), fun _ => ?_⟩
      obtain ⟨t', ht'⟩ := hcv
      refine ⟨_, fr, ⟨t', heap_setCells _ _ _ _ _ _ _ ht'⟩, by rw [wr_size]; exact hlim', by rw [updL_length (by rw [hlen]; exact hin), wr_size]; exact h5, fun i z hz => ?_, fun o' ho' => h7 o' (by rw [wr_size] at ho'; exact ho')⟩
      rw [updL_get (by rw [hlen]; exact hin)] at hz
      rw [wr_get _ _ _ _ (by rw [hul]; omega)]
      rw [hul]
      rw [hlen] at hz
      by_cases hi : o ≤ i ∧ i < o + n * k
      · rw [if_pos hi] at hz
        obtain ⟨u, hu1, hr, h1u⟩ := hget _ z hz
        refine ⟨u, ?_, hr.mono hbut.size (fun _ h => .inl h) hw, h1u⟩
        rw [if_pos (by omega), show p.st + i - (p.st + o) = i - o by omega]
        exact hu1
      · rw [if_neg hi] at hz
        obtain ⟨u, hu1, hr, h1u⟩ := h6 i z hz
        exact ⟨u, by rw [if_neg (by omega)]; exact hu1, hr.mono hbut.size (fun _ h => .inl h) hw, h1u⟩
  · exact hstay rfl A0 (.inl hv)
end
end Go.Abs
