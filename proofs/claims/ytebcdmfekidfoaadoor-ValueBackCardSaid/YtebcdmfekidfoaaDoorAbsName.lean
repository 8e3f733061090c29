/-
  NAMES OF OWNED OBJECTS: one is given another name; an object is frozen wherever its name stands; a function leaves some of what it owns; a call is given some of it. Generic over the program. Conditions: none.
-/
import Derived.Test.YtebcdmfekidfoaaDoorAbsRet
set_option linter.unusedVariables false
set_option linter.unusedSectionVars false
namespace Go.Abs
open Go
variable [GTab]

mutual
/-- The names in a value, turned by 'f' wherever one stands. -/
def AV.mapN (f : AV → AV) : AV → AV
  | .agg cs => .agg (AV.mapNL f cs)
  | .tup cs => .tup (AV.mapNL f cs)
  | .fn g cs ds => .fn g (AV.mapNL f cs) (AV.mapNL f ds)
  | .ifc t x => .ifc t (AV.mapN f x)
  | .nptr z b o => f (.nptr z b o)
  | .sl b o n => f (.sl b o n)
  | .mp b => f (.mp b)
  | .it b => f (.it b)
  | x => x
def AV.mapNL (f : AV → AV) : List AV → List AV
  | [] => []
  | x :: r => AV.mapN f x :: AV.mapNL f r
end
theorem AV.mapNL_length (f : AV → AV) : ∀ l, (AV.mapNL f l).length = l.length
  | [] => rfl
  | x :: r => by simp [AV.mapNL, AV.mapNL_length f r]
theorem AV.mapNL_get (f : AV → AV) : ∀ (l : List AV) (i : Nat) (y : AV), (AV.mapNL f l)[i]? = some y → ∃ x, l[i]? = some x ∧ y = x.mapN f
  | [], i, y, h => by simp [AV.mapNL] at h
  | x :: r, 0, y, h => by simp [AV.mapNL] at h; exact ⟨x, rfl, h.symm⟩
  | x :: r, i + 1, y, h => by
    simp only [AV.mapNL, List.getElem?_cons_succ] at h
    simpa using AV.mapNL_get f r i y h
def AV.leaf : AV → Bool
  | .nptr _ _ _ | .sl _ _ _ | .mp _ | .it _ => true
  | _ => false
theorem VRel.mapN {F F' : Nat → Prop} {β β' : Emb} {w w' : World} {f : AV → AV} (hs : w.heap.size ≤ w'.heap.size) (hO : ∀ b, off F' β' b → off F β b ∨ w.heap.size ≤ b)
    (hw : ∀ b, b < w.heap.size → ¬ off F β b → w'.heap[b]? = w.heap[b]?) (hleaf : ∀ x v, x.leaf = true → VRel F β w x v → VRel F' β' w' (f x) v) {x : AV} {v : Value} (h : VRel F β w x v) : VRel F' β' w' (x.mapN f) v := by
  induction h with
  | @c x v h =>
    have hc : ∀ {y u}, CRel (off F β) w y u → VRel F' β' w' (y.mapN f) u := by
      intro y u hy
      induction hy with
      | pl v => exact .c (.pl v)
      | agg hl _ ih => exact .agg (by rw [AV.mapNL_length]; exact hl) (fun i x v hx hv => by obtain ⟨y, hy, rfl⟩ := AV.mapNL_get _ _ _ _ hx; exact ih i y v hy hv)
      | tup hl _ ih => exact .tup (by rw [AV.mapNL_length]; exact hl) (fun i x v hx hv => by obtain ⟨y, hy, rfl⟩ := AV.mapNL_get _ _ _ _ hx; exact ih i y v hy hv)
      | fn hl _ hl2 _ ih ih2 =>
        exact .fn (by rw [AV.mapNL_length]; exact hl) (fun i x v hx hv => by obtain ⟨y, hy, rfl⟩ := AV.mapNL_get _ _ _ _ hx; exact ih i y v hy hv)
          (by rw [AV.mapNL_length]; exact hl2) (fun i x v hx hv => by obtain ⟨y, hy, rfl⟩ := AV.mapNL_get _ _ _ _ hx; exact ih2 i y v hy hv)
      | ifc _ ih => exact .ifc ih
      | vptr f hc ho hb h ih => exact .c ((CRel.vptr f hc ho hb h).mono hs hO hw)
      | vnil => exact .c .vnil
      | vs0 => exact .c .vs0
      | vs hn f hc ho hb h ih => exact .c ((CRel.vs hn f hc ho hb h).mono hs hO hw)
    exact hc h
  | agg hl _ ih => exact .agg (by rw [AV.mapNL_length]; exact hl) (fun i x v hx hv => by obtain ⟨y, hy, rfl⟩ := AV.mapNL_get _ _ _ _ hx; exact ih i y v hy hv)
  | tup hl _ ih => exact .tup (by rw [AV.mapNL_length]; exact hl) (fun i x v hx hv => by obtain ⟨y, hy, rfl⟩ := AV.mapNL_get _ _ _ _ hx; exact ih i y v hy hv)
  | fn hl _ hl2 _ ih ih2 =>
    exact .fn (by rw [AV.mapNL_length]; exact hl) (fun i x v hx hv => by obtain ⟨y, hy, rfl⟩ := AV.mapNL_get _ _ _ _ hx; exact ih i y v hy hv)
      (by rw [AV.mapNL_length]; exact hl2) (fun i x v hx hv => by obtain ⟨y, hy, rfl⟩ := AV.mapNL_get _ _ _ _ hx; exact ih2 i y v hy hv)
  | ifc _ ih => exact .ifc ih
  | ptr hp hn => exact hleaf _ _ rfl (.ptr hp hn)
  | pnil => exact hleaf _ _ rfl .pnil
  | sl hp hn hc hl => exact hleaf _ _ rfl (.sl hp hn hc hl)
  | slz hp => exact hleaf _ _ rfl (.slz hp)
  | mp hp hn => exact hleaf _ _ rfl (.mp hp hn)
  | it hp hn => exact hleaf _ _ rfl (.it hp hn)
  | junk h => exact .junk h
  | gone => exact .gone

def mapT (f : AV → AV) : List (Nat × AV) → List (Nat × AV)
  | [] => []
  | (i, x) :: r => (i, x.mapN f) :: mapT f r
theorem get_mapT (f : AV → AV) (T : List (Nat × AV)) (i : Nat) : get (mapT f T) i = (get T i).map (AV.mapN f) := by
  induction T with
  | nil => rfl
  | cons q r ih =>
    obtain ⟨j, x⟩ := q
    simp only [mapT, get_cons, ih]
    split <;> rfl
def AObj.mapN (f : AV → AV) : AObj → AObj
  | .box cs => .box (AV.mapNL f cs)
  | o => o
def mapH (f : AV → AV) : List (Nat × AObj) → List (Nat × AObj)
  | [] => []
  | (i, o) :: r => (i, o.mapN f) :: mapH f r
theorem hget_mapH (f : AV → AV) (H : List (Nat × AObj)) (i : Nat) : hget (mapH f H) i = (hget H i).map (AObj.mapN f) := by
  induction H with
  | nil => rfl
  | cons q r ih =>
    obtain ⟨j, x⟩ := q
    simp only [mapH, hget_cons, ih]
    split <;> rfl
theorem ORel.mapN {F F' : Nat → Prop} {β β' : Emb} {w w' : World} {f : AV → AV} {p : Place} {o : AObj} (hs : w.heap.size ≤ w'.heap.size) (hO : ∀ b, off F' β' b → off F β b ∨ w.heap.size ≤ b)
    (hw : ∀ b, b < w.heap.size → ¬ off F β b → w'.heap[b]? = w.heap[b]?) (hleaf : ∀ x v, x.leaf = true → VRel F β w x v → VRel F' β' w' (f x) v)
    (hp : p.nil = false → w'.heap[p.blk]? = w.heap[p.blk]?) (h : ORel F β w p o) : ORel F' β' w' p (o.mapN f) := by
  cases o with
  | row k fz cs =>
    obtain ⟨h1, h2, h3⟩ := h
    refine ⟨h1, h2, fun hn => ?_⟩
    obtain ⟨cv, fr, ⟨t, ht⟩, h4, h5, h6, h7⟩ := h3 hn
    exact ⟨cv, fr, ⟨t, by rw [hp hn]; exact ht⟩, h4, h5, fun i x hx => let ⟨v, hv, hc, h1c⟩ := h6 i x hx; ⟨v, hv, hc.mono hs hO hw, h1c⟩, h7⟩
  | box cs =>
    obtain ⟨h1, cv, fr, ⟨t, ht⟩, h5, h6, h7⟩ := h
    refine ⟨h1, cv, fr, ⟨t, by rw [hp h1]; exact ht⟩, by rw [AV.mapNL_length]; exact h5, fun i x hx => ?_, h7⟩
    obtain ⟨y, hy, rfl⟩ := AV.mapNL_get _ _ _ _ hx
    obtain ⟨v, hv, hc, h1c⟩ := h6 i y hy
    exact ⟨v, hv, hc.mapN hs hO hw hleaf, h1c⟩
  | map es =>
    obtain ⟨h1, ms, clock, h2, h3, h4, h5⟩ := h
    refine ⟨h1, ms, clock, by rw [hp h1]; exact h2, h3, fun i x e hx he => ?_, h5⟩
    obtain ⟨q1, q2, q3⟩ := h4 i x e hx he
    exact ⟨q1.mono hs hO hw, q2.mono hs hO hw, q3⟩
  | siter sx pos => exact ⟨h.1, by rw [hp h.1]; exact h.2⟩

/-! ### A new name -/
def renL (b b' : Nat) : AV → AV
  | .nptr z i o => match Nat.beq i b with | true => .nptr z b' o | false => .nptr z i o
  | .sl i o n => match Nat.beq i b with | true => .sl b' o n | false => .sl i o n
  | .mp i => match Nat.beq i b with | true => .mp b' | false => .mp i
  | .it i => match Nat.beq i b with | true => .it b' | false => .it i
  | x => x
def renI (b b' i : Nat) : Nat := match Nat.beq i b with | true => b' | false => i
def renH (b b' : Nat) : List (Nat × AObj) → List (Nat × AObj)
  | [] => []
  | (i, o) :: r => (renI b b' i, o.mapN (renL b b')) :: renH b b' r
theorem hget_renH {b b' : Nat} : ∀ {H : List (Nat × AObj)} (h : hget H b' = none) (i : Nat), hget (renH b b' H) i = (if i = b' then hget H b else if i = b then none else hget H i).map (AObj.mapN (renL b b'))
  | [], h, i => by simp [renH, hget]
  | (j, o) :: r, h, i => by
    have hj : j ≠ b' := fun e => by rw [hget_cons, if_pos e] at h; cases h
    have hr : hget r b' = none := by rw [hget_cons, if_neg hj] at h; exact h
    rw [renH, hget_cons, hget_renH hr, hget_cons, hget_cons]
    have hI : renI b b' j = if j = b then b' else j := by
      simp only [renI]
      by_cases e : j = b
      · rw [if_pos e, Nat.beq_eq.mpr e]
      · rw [if_neg e]
        split
        · rename_i h; exact absurd (Nat.eq_of_beq_eq_true h) e
        · rfl
    rw [hI]
    by_cases e0 : j = b <;> by_cases e1 : i = b' <;> by_cases e2 : i = b <;> by_cases e3 : j = i <;> simp_all <;> omega

theorem Sat.ren {c : Ctx} {T : List (Nat × AV)} {H : List (Nat × AObj)} {M : List Nat} {a : Act} {w : World} (h : Sat c ⟨T, H, M⟩ a w) {b b' : Nat} (hb : hget H b' = none) (hbb : Nat.beq b b' = false) :
    Sat c ⟨mapT (renL b b') T, renH b b' H, b :: M⟩ a w := by
  obtain ⟨β, hs⟩ := h
  have hne := Nat.ne_of_beq_eq_false hbb
  have hno : β b' = none := by
    cases h : β b' with
    | none => rfl
    | some q => obtain ⟨ob, hob⟩ := hs.heap.dom b' q h; rw [hb] at hob; cases hob
  let β' : Emb := fun i => if i = b' then β b else if i = b then none else β i
  have hβ1 : ∀ p, β b = some p → β' b' = some p := fun p hp => by simp only [β', if_pos]; exact hp
  have hβ2 : ∀ i p, i ≠ b → β i = some p → β' i = some p := fun i p hi hp => by
    have : i ≠ b' := fun e => by subst e; rw [hno] at hp; cases hp
    simp only [β', if_neg this, if_neg hi]; exact hp
  have hinv : ∀ i p, β' i = some p → (i = b' ∧ β b = some p) ∨ (i ≠ b ∧ i ≠ b' ∧ β i = some p) := fun i p hp => by
    by_cases e : i = b'
    · simp only [β', if_pos e] at hp; exact .inl ⟨e, hp⟩
    · by_cases e2 : i = b
      · simp only [β', if_neg e, if_pos e2] at hp; cases hp
      · simp only [β', if_neg e, if_neg e2] at hp; exact .inr ⟨e2, e, hp⟩
  have hown : ∀ k, own β' k → own β k := by
    rintro k ⟨i, p, hp, hn, hk⟩
    rcases hinv i p hp with ⟨_, h⟩ | ⟨_, _, h⟩
    · exact ⟨b, p, h, hn, hk⟩
    · exact ⟨i, p, h, hn, hk⟩
  have hO : ∀ k, off c.F β' k → off c.F β k ∨ w.heap.size ≤ k := fun k hk => .inl (hk.imp id (hown k))
  have hw : ∀ k, k < w.heap.size → ¬ off c.F β k → w.heap[k]? = w.heap[k]? := fun _ _ _ => rfl
  have hleaf : ∀ x v, x.leaf = true → VRel c.F β w x v → VRel c.F β' w (renL b b' x) v := by
    intro x v hx hv
    cases hv with
    | @ptr i o p hp hn =>
      simp only [renL]; split
      · rename_i e; obtain rfl := Nat.eq_of_beq_eq_true e; exact .ptr (hβ1 _ hp) hn
      · rename_i e; exact .ptr (hβ2 _ _ (Nat.ne_of_beq_eq_false e) hp) hn
    | @pnil i o => simp only [renL]; split <;> exact .pnil
    | @sl i o n c p hp hn hc hl =>
      simp only [renL]; split
      · rename_i e; obtain rfl := Nat.eq_of_beq_eq_true e; exact .sl (hβ1 _ hp) hn hc hl
      · rename_i e; exact .sl (hβ2 _ _ (Nat.ne_of_beq_eq_false e) hp) hn hc hl
    | @slz i o a p hp =>
      simp only [renL]; split
      · rename_i e; obtain rfl := Nat.eq_of_beq_eq_true e; exact .slz (hβ1 _ hp)
      · rename_i e; exact .slz (hβ2 _ _ (Nat.ne_of_beq_eq_false e) hp)
    | @mp i p hp hn =>
      simp only [renL]; split
      · rename_i e; obtain rfl := Nat.eq_of_beq_eq_true e; exact .mp (hβ1 _ hp) hn
      · rename_i e; exact .mp (hβ2 _ _ (Nat.ne_of_beq_eq_false e) hp) hn
    | @it i p hp hn =>
      simp only [renL]; split
      · rename_i e; obtain rfl := Nat.eq_of_beq_eq_true e; exact .it (hβ1 _ hp) hn
      · rename_i e; exact .it (hβ2 _ _ (Nat.ne_of_beq_eq_false e) hp) hn
    | c h => cases h <;> cases hx
    | agg => cases hx
    | tup => cases hx
    | fn => cases hx
    | ifc => cases hx
    | junk => cases hx
    | gone => cases hx
  refine ⟨β', hs.defers, hs.size, ⟨fun i o hg => ?_, fun i p hp => ?_, fun i j p q hp hq hpn hqn hpq => ?_, hs.heap.fresh, fun i p hp => ?_, hs.heap.glob.mono (Nat.le_refl _) hO hw⟩, fun i x hx => ?_, ?_, fun i p hp hm => ?_⟩
  · rw [hget_renH hb, Option.map_eq_some_iff] at hg
    obtain ⟨o, ho, rfl⟩ := hg
    by_cases e : i = b'
    · rw [if_pos e] at ho
      obtain ⟨p, hp, hr⟩ := hs.heap.obj b o ho
      subst e
      exact ⟨p, hβ1 p hp, hr.mapN (Nat.le_refl _) hO hw hleaf (fun _ => rfl)⟩
    · rw [if_neg e] at ho
      by_cases e2 : i = b
      · rw [if_pos e2] at ho; cases ho
      · rw [if_neg e2] at ho
        obtain ⟨p, hp, hr⟩ := hs.heap.obj i o ho
        exact ⟨p, hβ2 i p e2 hp, hr.mapN (Nat.le_refl _) hO hw hleaf (fun _ => rfl)⟩
  · rw [hget_renH hb]
    rcases hinv i p hp with ⟨rfl, h⟩ | ⟨h1, h2, h⟩
    · obtain ⟨o, ho⟩ := hs.heap.dom b p h
      exact ⟨_, by rw [if_pos rfl, ho]; rfl⟩
    · obtain ⟨o, ho⟩ := hs.heap.dom i p h
      exact ⟨_, by rw [if_neg h2, if_neg h1, ho]; rfl⟩
  · rcases hinv i p hp with ⟨rfl, h⟩ | ⟨h1, h2, h⟩ <;> rcases hinv j q hq with ⟨rfl, h'⟩ | ⟨h1', h2', h'⟩
    · rfl
    · exact absurd (hs.heap.inj b j p q h h' hpn hqn hpq).symm h1'
    · exact absurd (hs.heap.inj i b p q h h' hpn hqn hpq) h1
    · exact hs.heap.inj i j p q h h' hpn hqn hpq
  · rcases hinv i p hp with ⟨rfl, h⟩ | ⟨h1, h2, h⟩
    · exact hs.heap.apart b p h
    · exact hs.heap.apart i p h
  · rw [get_mapT, Option.map_eq_some_iff] at hx
    obtain ⟨y, hy, rfl⟩ := hx
    obtain ⟨v, hv, hr⟩ := hs.slot i y hy
    exact ⟨v, hv, hr.mapN (Nat.le_refl _) hO hw hleaf⟩
  · exact ⟨hs.keeps.os, hs.keeps.tape, hs.keeps.output, hs.keeps.size, hs.keeps.block, fun k hk => hs.keeps.grows k (hown k hk)⟩
  · rw [mem_cons, Bool.or_eq_false_iff, decide_eq_false_iff_not] at hm
    exact hβ2 i p (Ne.symm hm.1) (hs.stay i p hp hm.2)

/-! ### An object is frozen, wherever its name stands -/
def frzL (b k : Nat) (cs : List AV) : AV → AV
  | .nptr z i o => match Nat.beq i b with | true => .optr z (cs.drop o) | false => .nptr z i o
  | .sl i o n => match Nat.beq i b with | true => .vs n ((cs.drop o).take (n * k)) | false => .sl i o n
  | .mp i => match Nat.beq i b with | true => .gone | false => .mp i
  | .it i => match Nat.beq i b with | true => .gone | false => .it i
  | x => x
/-- The cells of an object whose cells are all closed. -/
def cellsOf : AObj → Option (List AV)
  | .row _ _ cs => some cs
  | .box cs => match AV.closedL cs with | true => some cs | false => none
  | _ => none

theorem Sat.frz {c : Ctx} {T : List (Nat × AV)} {H : List (Nat × AObj)} {M : List Nat} {a : Act} {w : World} (h : Sat c ⟨T, H, M⟩ a w) {b : Nat} (k : Nat) {ob : AObj} {cs : List AV} (hb : hget H b = some ob) (hcs : cellsOf ob = some cs) :
    Sat c ⟨mapT (frzL b k cs) T, mapH (frzL b k cs) (hdel H b), b :: M⟩ a w := by
  obtain ⟨β, hs⟩ := h
  obtain ⟨p0, hp0, hro⟩ := hs.heap.obj b _ hb
  let β' : Emb := fun i => if b = i then none else β i
  have hβ' : ∀ i q, β' i = some q → b ≠ i ∧ β i = some q := fun i q hq => by
    by_cases e : b = i
    · simp [β', e] at hq
    · simp only [β', if_neg e] at hq; exact ⟨e, hq⟩
  have hβ : ∀ i q, i ≠ b → β i = some q → β' i = some q := fun i q hi hq => by show (if b = i then none else β i) = some q; rw [if_neg (Ne.symm hi)]; exact hq
  have hO : ∀ k, off c.F β' k → off c.F β k ∨ w.heap.size ≤ k := fun k hk => .inl (hk.imp id (own_mono fun i p hp => (hβ' i p hp).2))
  have hw : ∀ k, k < w.heap.size → ¬ off c.F β k → w.heap[k]? = w.heap[k]? := fun _ _ _ => rfl
  have hoff : p0.nil = false → ¬ off c.F β' p0.blk := by
    intro hn
    rintro (hF | ⟨j, q, hq, hqn, hqb⟩)
    · exact hs.heap.apart b p0 hp0 hn hF
    · obtain ⟨h1, h2⟩ := hβ' j q hq
      exact h1 (hs.heap.inj b j p0 q hp0 h2 hn hqn hqb.symm)
  have hcell : p0.nil = false → p0.blk < w.heap.size ∧ ∀ (i : Nat) (x : AV), cs[i]? = some x → ∃ u, w.cell? ⟨p0.blk, p0.st + i, none⟩ = some u ∧ CRel (off c.F β') w x u ∧ u.oneCell' = true := by
    intro hn
    refine ⟨hs.heap.blk_lt hp0 hn, fun i x hx => ?_⟩
    cases ob with
    | row k' fz ds =>
      cases hcs
      obtain ⟨_, _, h3⟩ := hro
      obtain ⟨cv, fr, hcv, _, _, h6, _⟩ := h3 hn
      obtain ⟨u, hu, hc, h1⟩ := h6 i x hx
      exact ⟨u, by rw [cell_of_cells hcv]; exact hu, hc.mono (Nat.le_refl _) hO hw, h1⟩
    | box ds =>
      simp only [cellsOf] at hcs
      split at hcs
      · rename_i hcl
        cases hcs
        obtain ⟨_, cv, fr, hcv, _, h6, _⟩ := hro
        obtain ⟨u, hu, hc, h1⟩ := h6 i x hx
        exact ⟨u, by rw [cell_of_cells hcv]; exact hu, (hc.closed (AV.closedL_get hcl hx)).mono (Nat.le_refl _) hO hw, h1⟩
      · cases hcs
    | map es => cases hcs
    | siter sx pos => cases hcs
  have hnilcs : p0.nil = true → cs = [] := by
    intro hn
    cases ob with
    | row k' fz ds => cases hcs; exact hro.2.1 hn
    | box ds => have := hro.1; rw [hn] at this; cases this
    | map es => cases hcs
    | siter sx pos => cases hcs
  have hleaf : ∀ x v, x.leaf = true → VRel c.F β w x v → VRel c.F β' w (frzL b k cs x) v := by
    intro x v hx hv
    cases hv with
    | @ptr i o p hp hn =>
      simp only [frzL]; split
      · rename_i e; obtain rfl := Nat.eq_of_beq_eq_true e
        rw [hp0] at hp; cases hp
        obtain ⟨hlt, hce⟩ := hcell hn
        refine .c (VRel.vptr_mk (hoff hn) hlt fun i x hx => ?_)
        rw [List.getElem?_drop] at hx
        rw [Nat.add_assoc]
        exact hce _ x hx
      · rename_i e; exact .ptr (hβ _ _ (Nat.ne_of_beq_eq_false e) hp) hn
    | @pnil i o =>
      simp only [frzL]; split
      · exact .c .vnil
      · exact .pnil
    | @sl i o n cap p hp hn hcap hl =>
      simp only [frzL]; split
      · rename_i e; obtain rfl := Nat.eq_of_beq_eq_true e
        rw [hp0] at hp; cases hp
        obtain ⟨hlt, hce⟩ := hcell hn
        refine .c (VRel.vs_mk hcap (hoff hn) hlt fun i x hx => ?_)
        have hi : i < n * k := by
          have := (List.getElem?_eq_some_iff.1 hx).1
          simp at this; omega
        rw [List.getElem?_take_of_lt hi, List.getElem?_drop] at hx
        rw [Nat.add_assoc]
        exact hce _ x hx
      · rename_i e; exact .sl (hβ _ _ (Nat.ne_of_beq_eq_false e) hp) hn hcap hl
    | @slz i o a p hp =>
      simp only [frzL]; split
      · rename_i e; obtain rfl := Nat.eq_of_beq_eq_true e
        rw [hp0] at hp; cases hp
        simp
        exact .c .vs0
      · rename_i e; exact .slz (hβ _ _ (Nat.ne_of_beq_eq_false e) hp)
    | @mp i p hp hn =>
      simp only [frzL]; split
      · exact .gone
      · rename_i e; exact .mp (hβ _ _ (Nat.ne_of_beq_eq_false e) hp) hn
    | @it i p hp hn =>
      simp only [frzL]; split
      · exact .gone
      · rename_i e; exact .it (hβ _ _ (Nat.ne_of_beq_eq_false e) hp) hn
    | c h => cases h <;> cases hx
    | agg => cases hx
    | tup => cases hx
    | fn => cases hx
    | ifc => cases hx
    | junk => cases hx
    | gone => cases hx
  refine ⟨β', hs.defers, hs.size, ⟨fun i ob hg => ?_, fun i q hq => ?_, fun i j q r hq hr => hs.heap.inj i j q r (hβ' i q hq).2 (hβ' j r hr).2, hs.heap.fresh, fun i q hq => hs.heap.apart i q (hβ' i q hq).2, hs.heap.glob.mono (Nat.le_refl _) hO hw⟩, fun i x hx => ?_, ?_, fun i q hq hm => ?_⟩
  · rw [hget_mapH, hget_hdel] at hg
    by_cases e : b = i
    · rw [if_pos e] at hg; cases hg
    · rw [if_neg e, Option.map_eq_some_iff] at hg
      obtain ⟨ob, ho, rfl⟩ := hg
      obtain ⟨q, hq, hr⟩ := hs.heap.obj i ob ho
      exact ⟨q, hβ i q (Ne.symm e) hq, hr.mapN (Nat.le_refl _) hO hw hleaf (fun _ => rfl)⟩
  · obtain ⟨ob, ho⟩ := hs.heap.dom i q (hβ' i q hq).2
    exact ⟨_, by rw [hget_mapH, hget_hdel, if_neg (hβ' i q hq).1, ho]; rfl⟩
  · rw [get_mapT, Option.map_eq_some_iff] at hx
    obtain ⟨y, hy, rfl⟩ := hx
    obtain ⟨u, hu, hr⟩ := hs.slot i y hy
    exact ⟨u, hu, hr.mapN (Nat.le_refl _) hO hw hleaf⟩
  · exact ⟨hs.keeps.os, hs.keeps.tape, hs.keeps.output, hs.keeps.size, hs.keeps.block, fun k hk => hs.keeps.grows k (own_mono (fun i p hp => (hβ' i p hp).2) hk)⟩
  · rw [mem_cons, Bool.or_eq_false_iff, decide_eq_false_iff_not] at hm
    exact hβ i q (Ne.symm hm.1) (hs.stay i q hq hm.2)

section
variable {c : Ctx} {Q : Exit → Act → World → Prop} {T : List (Nat × AV)} {H : List (Nat × AObj)} {M : List Nat} {code : Code} {ops : Array Oper} {rest : List Oper} {e : Exit}
theorem Run_ren (b b' : Nat) (hb : hget H b' = none) (hbb : Nat.beq b b' = false) (h : Run c Q code ⟨mapT (renL b b') T, renH b b' H, b :: M⟩) : Run c Q code ⟨T, H, M⟩ := fun a w hs => h a w (hs.ren hb hbb)
theorem RunL_ren (b b' : Nat) (hb : hget H b' = none) (hbb : Nat.beq b b' = false) (h : RunL c ops Q rest ⟨mapT (renL b b') T, renH b b' H, b :: M⟩) : RunL c ops Q rest ⟨T, H, M⟩ := fun a w hs => h a w (hs.ren hb hbb)
theorem Fin_ren (b b' : Nat) (hb : hget H b' = none) (hbb : Nat.beq b b' = false) (h : Fin c Q e ⟨mapT (renL b b') T, renH b b' H, b :: M⟩) : Fin c Q e ⟨T, H, M⟩ := fun a w hs => h a w (hs.ren hb hbb)
theorem Run_frz (b k : Nat) {ob : AObj} {cs : List AV} (hb : hget H b = some ob) (hcs : cellsOf ob = some cs) (h : Run c Q code ⟨mapT (frzL b k cs) T, mapH (frzL b k cs) (hdel H b), b :: M⟩) : Run c Q code ⟨T, H, M⟩ :=
  fun a w hs => h a w (hs.frz k hb hcs)
theorem RunL_frz (b k : Nat) {ob : AObj} {cs : List AV} (hb : hget H b = some ob) (hcs : cellsOf ob = some cs) (h : RunL c ops Q rest ⟨mapT (frzL b k cs) T, mapH (frzL b k cs) (hdel H b), b :: M⟩) : RunL c ops Q rest ⟨T, H, M⟩ :=
  fun a w hs => h a w (hs.frz k hb hcs)
theorem Fin_frz (b k : Nat) {ob : AObj} {cs : List AV} (hb : hget H b = some ob) (hcs : cellsOf ob = some cs) (h : Fin c Q e ⟨mapT (frzL b k cs) T, mapH (frzL b k cs) (hdel H b), b :: M⟩) : Fin c Q e ⟨T, H, M⟩ :=
  fun a w hs => h a w (hs.frz k hb hcs)
end
end Go.Abs
