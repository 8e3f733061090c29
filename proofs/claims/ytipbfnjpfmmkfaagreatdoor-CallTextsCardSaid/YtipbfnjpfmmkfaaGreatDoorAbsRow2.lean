/-
  ROWS, MORE: literals of several elements, an append of one element, made rows, nil rows, rows let be. Generic over the program. Conditions: none.
-/
import Derived.Test.YtipbfnjpfmmkfaaGreatDoorAbsRow
set_option linter.unusedVariables false
set_option linter.unusedSimpArgs false
set_option linter.unusedSectionVars false
namespace Go.Abs
open Go
variable [GTab]

theorem wr_append : ∀ (l1 l2 : List Value) (c : Array Value) (o : Nat), wr c o (l1 ++ l2) = wr (wr c o l1) (o + l1.length) l2
  | [], l2, c, o => rfl
  | x :: r, l2, c, o => by
    simp only [List.cons_append, wr, List.length_cons]
    rw [wr_append r l2, show o + 1 + r.length = o + (r.length + 1) by omega]
theorem foldl_wr (l : List Value) : ∀ (b o : Nat) (c : Array Value), ((l.zipIdx o).foldl (fun cs (x : Value × Nat) => cs.setIfInBounds (b + x.2) x.1) c) = wr c (b + o) l := by
  induction l with
  | nil => intro b o c; rfl
  | cons x r ih => intro b o c; simp only [List.zipIdx_cons, List.foldl_cons, wr]; exact ih b (o + 1) (c.setIfInBounds (b + o) x)

def enumV : Nat → List Value → List (Nat × Value)
  | _, [] => []
  | j, v :: r => (j, v) :: enumV (j + 1) r
theorem fill_seq (k : Nat) : ∀ (vs : List Value) (j : Nat) (c : Array Value), (∀ v ∈ vs, v.cells.size = k) → (j + vs.length) * k ≤ c.size →
    Instr.fill (fun i => some (i * k, k)) c (enumV j vs) = some (wr c (j * k) (vs.flatMap (·.cells.toList)))
  | [], j, c, _, _ => rfl
  | v :: r, j, c, hv, hc => by
    have hvk := hv v (by simp)
    have h1 : ¬ (v.cells.size ≠ k ∨ j * k + v.cells.size > c.size) := by
      simp only [List.length_cons] at hc
      rw [show j + (r.length + 1) = j + 1 + r.length by omega, Nat.add_mul, Nat.add_mul, Nat.one_mul] at hc
      omega
    simp only [enumV, Instr.fill]
    rw [if_neg (by simpa using h1)]
    have h2 : v.cells.zipIdx.foldl (fun cs (x : Value × Nat) => cs.setIfInBounds (j * k + x.2) x.1) c = wr c (j * k) v.cells.toList := by
      rw [← Array.foldl_toList, Array.toList_zipIdx, foldl_wr]; rfl
    refine (congrArg (fun c' => Instr.fill (fun i => some (i * k, k)) c' (enumV (j + 1) r)) h2).trans ?_
    rw [fill_seq k r (j + 1) _ (fun u hu => hv u (by simp [hu])) (by rw [wr_size, show j + 1 + r.length = j + (r.length + 1) by omega]; simpa using hc)]
    rw [List.flatMap_cons, wr_append, Array.length_toList, hvk, Nat.add_mul, Nat.one_mul]

theorem run_buildSlice {P : Program} {w : World} {t e : TypeId} {k : Nat} {z : Value} {vs : List Value} (ht : (underlying t).run P w = .ok (.slice e) w) (hs : (sizeOf e).run P w = .ok k w) (hz : (zeroValue e).run P w = .ok z w) (hzs : z.cells.size = k) (hk0 : 0 < k)
    (hv : ∀ v ∈ vs, v.cells.size = k) (hk : vs.length * k ≤ 2 ^ 24) (hn : vs ≠ []) :
    (Instr.buildSlice t vs.length (enumV 0 vs).toArray).run P w = .ok (.slice (some ⟨w.heap.size, 0, none⟩) vs.length vs.length) (w.alloc (.cells (vs.flatMap (·.cells.toList)).toArray e)) := by
  have hfl : (vs.flatMap (·.cells.toList)).length = vs.length * k := by
    clear hk hn
    induction vs with
    | nil => simp
    | cons v r ih => rw [List.flatMap_cons, List.length_append, ih (fun u hu => hv u (by simp [hu])), Array.length_toList, hv v (by simp), List.length_cons, Nat.add_mul, Nat.one_mul, Nat.add_comm]
  have h0 : vs.length * k ≠ 0 := by
    have : 0 < vs.length := List.length_pos_iff.2 hn
    have := Nat.mul_pos this hk0
    omega
  have hfill := fill_seq k vs 0 ((Array.range (vs.length * k)).map (z.cells[· % z.cells.size]!)) hv (by simp)
  have hall : wr ((Array.range (vs.length * k)).map (z.cells[· % z.cells.size]!)) (0 * k) (vs.flatMap (·.cells.toList)) = (vs.flatMap (·.cells.toList)).toArray := by
    apply Array.ext_getElem?
    intro i
    rw [wr_get _ _ _ _ (by simp [hfl])]
    by_cases hi : i < vs.length * k
    · rw [if_pos (by simp [hfl, hi])]; simp
    · rw [if_neg (by simp [hfl, hi]), Array.getElem?_eq_none (by simp; omega), Array.getElem?_eq_none (by simp [hfl]; omega)]
  rw [hall] at hfill
  unfold Instr.buildSlice
  simp only [Sem.run_bind, ht, Result.andThen_ok, hs]
  have h3 : ¬ (vs.length * k > 2 ^ 24) := by omega
  simp only [h3, if_false, Sem.run_pure, Result.andThen_ok, h0, Sem.run_bind, hz, List.toList_toArray, hfill]
  simp [newRow]

def enumO : Nat → List Operand → List (Nat × Operand)
  | _, [] => []
  | j, v :: r => (j, v) :: enumO (j + 1) r
theorem enumO_map (f : Operand → Value) : ∀ (j : Nat) (xs : List Operand), (enumO j xs).map (fun (i, x) => (i, f x)) = enumV j (xs.map f)
  | _, [] => rfl
  | j, x :: r => by simp only [enumO, List.map_cons, enumV, enumO_map f (j + 1) r]
def cellsL : List AV → List AV
  | [] => []
  | x :: r => cellsA x ++ cellsL r
/-- Each is a value of k closed cells. -/
def fitAll (k : Nat) : List AV → Bool
  | [] => true
  | x :: r => fit x && (AV.closedL (cellsA x) && (Nat.beq (cellsA x).length k && fitAll k r))

/-- Values of k cells, one behind the other. -/
theorem cellsL_spec {F : Nat → Prop} {β : Emb} {w : World} {k : Nat} : ∀ {xs : List AV} {vs : List Value}, fitAll k xs = true → Args F β w xs vs →
    (∀ v ∈ vs, v.cells.size = k) ∧ (cellsL xs).length = (vs.flatMap (·.cells.toList)).length ∧
      ∀ (i : Nat) (y : AV), (cellsL xs)[i]? = some y → ∃ u, (vs.flatMap (·.cells.toList))[i]? = some u ∧ CRel (off F β) w y u ∧ u.oneCell' = true
  | [], [], _, _ => ⟨by simp, rfl, by simp [cellsL]⟩
  | [], v :: r, _, h => by have := h.1; simp at this
  | x :: r, [], _, h => by have := h.1; simp at this
  | x :: r, v :: vr, hf, h => by
    simp only [fitAll, Bool.and_eq_true] at hf
    obtain ⟨hf1, hf2, hf3, hf4⟩ := hf
    have hxv : VRel F β w x v := h.2 0 x v rfl rfl
    obtain ⟨hl, hc⟩ := hxv.cells hf1
    have hk := Nat.eq_of_beq_eq_true hf3
    obtain ⟨i1, i2, i3⟩ := cellsL_spec hf4 (vs := vr) ⟨by have := h.1; simpa using this, fun i y u hy hu => h.2 (i + 1) y u (by simpa using hy) (by simpa using hu)⟩
    refine ⟨fun u hu => ?_, ?_, fun i y hy => ?_⟩
    · rcases List.mem_cons.1 hu with rfl | hu
      · rw [← hl, hk]
      · exact i1 u hu
    · rw [cellsL, List.length_append, List.flatMap_cons, List.length_append, i2, hl]; simp
    · rw [cellsL] at hy
      rw [List.flatMap_cons]
      by_cases hi : i < (cellsA x).length
      · rw [List.getElem?_append_left hi] at hy
        obtain ⟨u, hu, hr, h1⟩ := hc i y hy
        exact ⟨u, by rw [List.getElem?_append_left (by simp; omega)]; simpa using hu, hr.closed (AV.closedL_get hf2 hy), h1⟩
      · rw [List.getElem?_append_right (by omega)] at hy
        obtain ⟨u, hu, hr, h1⟩ := i3 _ y hy
        exact ⟨u, by rw [List.getElem?_append_right (by simp; omega)]; simpa [hl] using hu, hr, h1⟩

/-- A new row. -/
theorem SatB.newrow {c : Ctx} {s : St} {β : Emb} {a : Act} {w : World} (hs : SatB c s β a w) {b : Nat} (hb : hget s.H b = none) (cells : Array Value) (e : TypeId) {k n : Nat} {cs : List AV} (hl : cs.length = cells.size) (hsz : cells.size = n * k)
    (h : ∀ (i : Nat) (y : AV), cs[i]? = some y → ∃ u, cells[i]? = some u ∧ CRel (off c.F β) w y u ∧ u.oneCell' = true) (fr : Nat × Nat := (0, 0)) (hfr : ∀ o, o < cells.size → fr.1 ≤ o → ¬ o < fr.2) :
    ∃ β', SatB c ⟨s.T, (b, .row e k 0 cs) :: s.H, s.M⟩ β' a (w.alloc (.cells cells e fr)) ∧ VRel c.F β' (w.alloc (.cells cells e fr)) (.sl b 0 n) (.slice (some ⟨w.heap.size, 0, none⟩) n n) := by
  let p : Place := ⟨w.heap.size, 0, cells.size, k, false⟩
  have hO : ∀ k, off c.F (upd β b p) k → off c.F β k ∨ w.heap.size ≤ k := by
    rintro k (hk | ⟨i, q, hq, hqn, rfl⟩)
    · exact .inl (.inl hk)
    · rcases upd_some hq with ⟨rfl, rfl⟩ | ⟨_, hq⟩
      · exact .inr (Nat.le_refl _)
      · exact .inl (.inr ⟨i, q, hq, hqn, rfl⟩)
  refine ⟨upd β b p, hs.newobj hb p (.inl rfl) (fun _ => ⟨Nat.le_refl _, by simp [p]⟩) (But.alloc _ _) ?_, ?_⟩
  · refine ⟨rfl, (fun h => by cases h), fun _ => ⟨cells, fr, heap_alloc_at _ _, rfl, by simp [p, hl], fun i y hy => ?_, fun o ho h1 h2 => (hfr o ho h1 h2).elim⟩⟩
    obtain ⟨u, hu, hr, h1⟩ := h i y hy
    exact ⟨u, by simp [p, hu], hr.mono (by simp) hO (fun k hk _ => RowKit.Below.heap_alloc _ _ _ hk), h1⟩
  · exact .sl (p := p) (upd_same _ _ _) rfl (Nat.le_refl _) (by show 0 + 0 + n * k ≤ cells.size; omega)

section
variable {c : Ctx} {s : St} {d : Option Tmp} {ty : TypeId} {pos : String} {af : Array Edge} {g : Option (Nat × Bool)}

theorem e_buildSlice {t : TypeId} {n : Nat} {parts : Array (Nat × Operand)} {xs : List Operand} {axs cs : List AV} {ti ei : TI} {e k : Nat} (ht : tget c.U t = some ti) (htd : ti.desc = .slice e) (he : tget c.U e = some ei) (hk : ei.size = k) (hk0 : 0 < k)
    (hzs : ei.zero.cells.size = k) (hparts : parts.toList = enumO 0 xs) (hn : xs.length = n) (hn0 : xs ≠ []) (hx : opvL s.T xs = some axs) (hfit : fitAll k axs = true) (hcs : cellsL axs = cs) (hlim : n * k ≤ 2 ^ 24) (hb : hget s.H (nm d) = none) (hd : dstOk c.N d = true) :
    EOpB c ⟨d, .buildSlice t n parts, ty, pos, af, g⟩ s ⟨putT s.T d (.sl (nm d) 0 n), (nm d, .row e k 0 cs) :: s.H, s.M⟩ := by
  intro a w β hs
  have hA := opvL_get hs hx
  obtain ⟨h1, h2, h3⟩ := cellsL_spec hfit hA
  subst hcs; subst hn
  have hlen : (xs.map a.eval).length = xs.length := by simp
  have hrun := run_buildSlice (P := c.P) (w := w) (t := t) (vs := xs.map a.eval) (by rw [ty_desc ht, htd]) (by rw [ty_size he, hk]) (ty_zero he w) hzs hk0 h1 (by rw [hlen]; exact hlim) (by simpa using hn0)
  have hfl : ((xs.map a.eval).flatMap (·.cells.toList)).length = xs.length * k := by
    rw [← hlen]
    generalize xs.map a.eval = vs at h1
    induction vs with
    | nil => simp
    | cons v r ih => rw [List.flatMap_cons, List.length_append, ih (fun u hu => h1 u (by simp [hu])), Array.length_toList, h1 v (by simp), List.length_cons, Nat.add_mul, Nat.one_mul, Nat.add_comm]
  obtain ⟨β', hs', hr⟩ := hs.newrow hb ((xs.map a.eval).flatMap (·.cells.toList)).toArray e (k := k) (n := xs.length) (cs := cellsL axs) (by simpa using h2) (by simpa using hfl)
    (fun i y hy => let ⟨u, hu, hr, h⟩ := h3 i y hy; ⟨u, by simpa using hu, hr, h⟩) (fr := (0, 0)) (fun o _ _ h => by simp at h)
  refine ⟨_, β', below_alloc _ _, _, ?_, hs'.put hd hr⟩
  have hp : parts.map (fun (i, x) => (i, a.eval x)) = (enumV 0 (xs.map a.eval)).toArray := by
    rw [← enumO_map, ← hparts]
    apply Array.toList_inj.1
    simp
  rw [hlen] at hrun
  simp only [execOp, hp]
  simp [hrun]
end

section
variable {c : Ctx} {Q : Exit → Act → World → Prop} {s : St} {ops : Array Oper} {rest : List Oper}
  {d1 : Tmp} {d2 : Option Tmp} {ty1 ty2 : TypeId} {pos1 pos2 : String} {af1 af2 : Array Edge}

end

/-! ### Ghosts: a nil slice as a row of one's own; a row that nobody writes any more -/
theorem Sat.nilrow {te : TypeId} {c : Ctx} {T : List (Nat × AV)} {H : List (Nat × AObj)} {M : List Nat} {a : Act} {w : World} (h : Sat c ⟨T, H, M⟩ a w) {t : Nat} (b k : Nat) (ht : get T t = some (.pl (.slice none 0 0))) (hb : hget H b = none) :
    Sat c ⟨(t, .sl b 0 0) :: T, (b, .row te k 0 []) :: H, M⟩ a w := by
  obtain ⟨β, hs⟩ := h
  let p : Place := ⟨0, 0, 0, k, true⟩
  have hs' := hs.newobj (w' := w) hb p (.inr trivial) (fun h => by cases h) ⟨rfl, ⟨rfl, Nat.le_refl _⟩, rfl, Nat.le_refl _, fun _ _ _ => rfl⟩ (o := .row te k 0 []) ⟨rfl, (fun _ => rfl), (fun h => by cases h)⟩
  refine ⟨upd β b p, hs'.defers, hs'.size, hs'.heap, fun i x hx => ?_, hs'.keeps, hs'.stay⟩
  rw [get_cons] at hx
  by_cases e : t = i
  · rw [if_pos e] at hx; cases hx; subst e
    obtain ⟨v, hv, hr⟩ := hs.slot t _ ht
    obtain rfl := hr.pl_eq
    exact ⟨_, hv, .slz (p := p) (upd_same _ _ _) (fun _ h => by cases h)⟩
  · rw [if_neg e] at hx
    exact hs'.slot i x hx

theorem Sat.freeze {te : TypeId} {c : Ctx} {T : List (Nat × AV)} {H : List (Nat × AObj)} {M : List Nat} {a : Act} {w : World} (h : Sat c ⟨T, H, M⟩ a w) {t b o n k fz : Nat} {cs ds : List AV} (ht : get T t = some (.sl b o n)) (hb : hget H b = some (.row te k fz cs)) (hds : (cs.drop o).take (n * k) = ds) :
    Sat c ⟨(t, .vs n ds) :: killT b T, killH b H, b :: M⟩ a w := by
  have hd := h.drop b
  obtain ⟨β, hs⟩ := h
  -- the value ahead of the drop
  obtain ⟨v, hv, hr⟩ := hs.slot t _ ht
  obtain ⟨p, hp, hcase⟩ := hr.sl_inv
  obtain ⟨p', hp', hro⟩ := hs.heap.obj b _ hb
  rw [hp] at hp'; cases hp'
  obtain ⟨hpk, hnil, hro⟩ := hro
  -- the embedding behind it
  let β' : Emb := fun i => if b = i then none else β i
  have hβ' : ∀ i q, β' i = some q → b ≠ i ∧ β i = some q := fun i q hq => by
    by_cases e : b = i
    · simp [β', e] at hq
    · simp only [β', if_neg e] at hq; exact ⟨e, hq⟩
  have hβ : ∀ i q, i ≠ b → β i = some q → β' i = some q := fun i q hi hq => by show (if b = i then none else β i) = some q; rw [if_neg (Ne.symm hi)]; exact hq
  have hO : ∀ k, off c.F β' k → off c.F β k ∨ w.heap.size ≤ k := fun k hk => .inl (hk.imp id (own_mono fun i p hp => (hβ' i p hp).2))
  have hw : ∀ k, k < w.heap.size → ¬ off c.F β k → w.heap[k]? = w.heap[k]? := fun _ _ _ => rfl
  have hval : CRel (off c.F β') w (.vs n ds) v := by
    rcases hcase with ⟨hn, cap, rfl, hcap, _⟩ | ⟨rfl, A0, rfl⟩
    · obtain ⟨cv, fr, hcv, _, _, h6, _⟩ := hro hn
      have hlt : p.blk < w.heap.size := hs.heap.blk_lt hp hn
      refine VRel.vs_mk hcap ?_ hlt fun i y hy => ?_
      · rintro (hF | ⟨j, q, hq, hqn, hqb⟩)
        · exact hs.heap.apart b p hp hn hF
        · obtain ⟨h1, h2⟩ := hβ' j q hq
          exact h1 (hs.heap.inj b j p q hp h2 hn hqn hqb.symm)
      · subst hds
        have hi : i < n * k := by
          have := (List.getElem?_eq_some_iff.1 hy).1
          simp at this; omega
        rw [List.getElem?_take_of_lt hi, List.getElem?_drop] at hy
        obtain ⟨u, hu, hc, h1⟩ := h6 _ y hy
        exact ⟨u, by rw [cell_of_cells hcv, Nat.add_assoc]; exact hu, hc.mono (Nat.le_refl _) hO hw, h1⟩
    · exact .vs0
  -- the drop, once more, with its embedding at hand
  refine ⟨β', hs.defers, hs.size, ⟨fun i ob hg => ?_, fun i q hq => ?_, fun i j q r hq hr => hs.heap.inj i j q r (hβ' i q hq).2 (hβ' j r hr).2, hs.heap.fresh, fun i q hq => hs.heap.apart i q (hβ' i q hq).2, hs.heap.glob.mono (Nat.le_refl _) hO hw⟩, fun i x hx => ?_, ?_, fun i q hq hm => ?_⟩
  · rw [hget_killH] at hg
    by_cases e : b = i
    · rw [if_pos e] at hg; cases hg
    · rw [if_neg e, Option.map_eq_some_iff] at hg
      obtain ⟨ob, ho, rfl⟩ := hg
      obtain ⟨q, hq, hr⟩ := hs.heap.obj i ob ho
      exact ⟨q, hβ i q (Ne.symm e) hq, hr.carryKill hβ (Nat.le_refl _) hO hw (fun _ => rfl)⟩
  · obtain ⟨ob, ho⟩ := hs.heap.dom i q (hβ' i q hq).2
    exact ⟨ob.kill b, by rw [hget_killH, if_neg (hβ' i q hq).1, ho]; rfl⟩
  · rw [get_cons] at hx
    by_cases e : t = i
    · rw [if_pos e] at hx; cases hx; subst e
      exact ⟨v, hv, .c hval⟩
    · rw [if_neg e, get_killT, Option.map_eq_some_iff] at hx
      obtain ⟨y, hy, rfl⟩ := hx
      obtain ⟨u, hu, hr⟩ := hs.slot i y hy
      exact ⟨u, hu, hr.kill hβ (Nat.le_refl _) hO hw⟩
  · exact ⟨hs.keeps.os, hs.keeps.tape, hs.keeps.output, hs.keeps.size, hs.keeps.block, fun k hk => hs.keeps.grows k (own_mono (fun i p hp => (hβ' i p hp).2) hk)⟩
  · rw [mem_cons, Bool.or_eq_false_iff, decide_eq_false_iff_not] at hm
    exact hβ i q (Ne.symm hm.1) (hs.stay i q hq hm.2)

section
variable {c : Ctx} {Q : Exit → Act → World → Prop} {T : List (Nat × AV)} {H : List (Nat × AObj)} {M : List Nat}
theorem Run_nilrow {te : TypeId} {code : Code} {t : Nat} (b k : Nat) (ht : get T t = some (.pl (.slice none 0 0))) (hb : hget H b = none) (h : Run c Q code ⟨(t, .sl b 0 0) :: T, (b, .row te k 0 []) :: H, M⟩) : Run c Q code ⟨T, H, M⟩ :=
  fun a w hs => h a w (hs.nilrow b k ht hb)
end
end Go.Abs
