/-
  NAMES ANEW: a state seen under other names; contracts whose objects bear names of their own, and what of the given ones was moved. Generic over the program. Conditions: none.
-/
import Derived.Test.YtipbfnjpfmmkfaaGreatDoorAbsWalk
set_option linter.unusedVariables false
set_option linter.unusedSectionVars false
namespace Go.Abs
open Go
variable [GTab]

theorem beqF {a b : Nat} (h : ¬ a = b) : Nat.beq a b = false := by
  cases e : Nat.beq a b with
  | false => rfl
  | true => exact absurd (Nat.eq_of_beq_eq_true e) h
/-! ### Pairs: an old name, a new one -/
def lk : List (Nat × Nat) → Nat → Option Nat
  | [], _ => none
  | (a, b) :: r, i => match Nat.beq a i with
    | true => some b
    | false => lk r i
def rk : List (Nat × Nat) → Nat → Option Nat
  | [], _ => none
  | (a, b) :: r, i => match Nat.beq b i with
    | true => some a
    | false => rk r i
def okS : List (Nat × Nat) → Bool
  | [] => true
  | (a, b) :: r => (match lk r a with | none => true | some _ => false) && ((match rk r b with | none => true | some _ => false) && okS r)
theorem lk_rk : ∀ {σ : List (Nat × Nat)} (h : okS σ = true) {a b : Nat}, lk σ a = some b → rk σ b = some a
  | [], _, a, b, hl => by cases hl
  | (x, y) :: r, h, a, b, hl => by
    simp only [okS, Bool.and_eq_true] at h
    obtain ⟨h1, h2, h3⟩ := h
    simp only [lk] at hl
    split at hl
    · rename_i e; cases hl
      obtain rfl := Nat.eq_of_beq_eq_true e
      simp [rk]
    · have ih := lk_rk h3 hl
      simp only [rk]
      split
      · rename_i e
        obtain rfl := Nat.eq_of_beq_eq_true e
        rw [ih] at h2; cases h2
      · exact ih
theorem rk_lk : ∀ {σ : List (Nat × Nat)} (h : okS σ = true) {a b : Nat}, rk σ b = some a → lk σ a = some b
  | [], _, a, b, hl => by cases hl
  | (x, y) :: r, h, a, b, hl => by
    simp only [okS, Bool.and_eq_true] at h
    obtain ⟨h1, h2, h3⟩ := h
    simp only [rk] at hl
    split at hl
    · rename_i e; cases hl
      obtain rfl := Nat.eq_of_beq_eq_true e
      simp [lk]
    · have ih := rk_lk h3 hl
      simp only [lk]
      split
      · rename_i e
        obtain rfl := Nat.eq_of_beq_eq_true e
        rw [ih] at h1; cases h1
      · exact ih
def reL (σ : List (Nat × Nat)) : AV → AV
  | .nptr z b o => match lk σ b with | some b' => .nptr z b' o | none => .junk
  | .sl b o n => match lk σ b with | some b' => .sl b' o n | none => .junk
  | .mp b => match lk σ b with | some b' => .mp b' | none => .junk
  | .it b => match lk σ b with | some b' => .it b' | none => .junk
  | x => x
def pickS (σ : List (Nat × Nat)) : List (Nat × Nat) → List (Nat × AObj) → Option (List (Nat × AObj))
  | [], _ => some []
  | (a, b) :: r, H => match hget H a with
    | some o => match pickS σ r H with
      | some l => some ((b, o.mapN (reL σ)) :: l)
      | none => none
    | none => none
theorem hget_pickS {σ : List (Nat × Nat)} : ∀ {τ : List (Nat × Nat)} {H H' : List (Nat × AObj)} (h : pickS σ τ H = some H') (i : Nat),
    hget H' i = match rk τ i with | some a => (hget H a).map (AObj.mapN (reL σ)) | none => none
  | [], H, H', h, i => by cases h; rfl
  | (a, b) :: r, H, H', h, i => by
    simp only [pickS] at h
    split at h
    · rename_i o ho
      split at h
      · rename_i l hl
        cases h
        have ih := hget_pickS hl i
        rw [hget_cons]
        simp only [rk]
        by_cases e : b = i
        · subst e; simp [ho]
        · rw [if_neg e, ih]
          have : Nat.beq b i = false := beqF e
          simp only [this]
      · cases h
    · cases h
def hnames : List (Nat × AObj) → List Nat
  | [] => []
  | (b, _) :: r => b :: hnames r
theorem hnames_mem : ∀ {H : List (Nat × AObj)} {b : Nat} {o : AObj}, hget H b = some o → mem b (hnames H) = true
  | [], b, o, h => by cases h
  | (j, x) :: r, b, o, h => by
    rw [hget_cons] at h
    rw [hnames, mem_cons]
    by_cases e : j = b
    · simp [e]
    · rw [if_neg e] at h; simp [hnames_mem h]
/-- Each given name is told as moved, or stands under itself and wasn't moved. -/
def okM (σ : List (Nat × Nat)) (M M' : List Nat) : List Nat → Bool
  | [] => true
  | b :: r => (mem b M' || ((match lk σ b with | some b' => Nat.beq b' b | none => false) && !mem b M)) && okM σ M M' r
theorem okM_get {σ : List (Nat × Nat)} {M M' : List Nat} : ∀ {N : List Nat} (h : okM σ M M' N = true) {b : Nat}, mem b N = true → mem b M' = false → lk σ b = some b ∧ mem b M = false
  | [], _, b, hb, _ => by cases hb
  | x :: r, h, b, hb, hm => by
    simp only [okM, Bool.and_eq_true, Bool.or_eq_true, Bool.not_eq_true'] at h
    obtain ⟨h1, h2⟩ := h
    rw [mem_cons] at hb
    by_cases e : x = b
    · subst e
      rcases h1 with h1 | ⟨h1, h3⟩
      · rw [hm] at h1; cases h1
      · split at h1
        · rename_i b' hl
          rw [Nat.eq_of_beq_eq_true h1] at hl
          exact ⟨hl, h3⟩
        · cases h1
    · have hb' : mem b r = true := by simpa [e] using hb
      exact okM_get h2 hb' hm

theorem oneCell_own {F : Nat → Prop} {β : Emb} {w : World} {x : AV} {v : Value} (hx : x.leaf = true) (h : VRel F β w x v) : v.oneCell' = true := by
  cases h with
  | ptr hp hn => rfl
  | pnil => rfl
  | sl hp hn hc hl => rfl
  | slz hp ha => rfl
  | mp hp hn => rfl
  | it hp hn => rfl
  | c h => cases h <;> cases hx
  | agg => cases hx
  | tup => cases hx
  | fn => cases hx
  | ifc => cases hx
  | anyp => cases hx
  | junk => cases hx
  | gone => cases hx
def reB (σ : List (Nat × Nat)) (β : Emb) : Emb := fun b => match rk σ b with | some a => β a | none => none
theorem reB_some {σ : List (Nat × Nat)} {β : Emb} {b : Nat} {p : Place} : reB σ β b = some p ↔ ∃ a, rk σ b = some a ∧ β a = some p := by
  simp only [reB]
  cases rk σ b <;> simp
theorem reB_own {σ : List (Nat × Nat)} {β : Emb} {k : Nat} (h : own (reB σ β) k) : own β k := by
  obtain ⟨b, p, hp, hn, hk⟩ := h
  obtain ⟨a, _, ha⟩ := reB_some.1 hp
  exact ⟨a, p, ha, hn, hk⟩
theorem reL_rel {F : Nat → Prop} {β : Emb} {w : World} {σ : List (Nat × Nat)} (hσ : okS σ = true) (x : AV) (v : Value) (hx : x.leaf = true) (hv : VRel F β w x v) : VRel F (reB σ β) w (reL σ x) v := by
  have h1 := oneCell_own hx hv
  cases hv with
  | @ptr i o p hp hn =>
    simp only [reL]; split
    · rename_i b' e; exact .ptr (reB_some.2 ⟨_, lk_rk hσ e, hp⟩) hn
    · exact .junk h1
  | @pnil i o =>
    simp only [reL]; split
    · exact .pnil
    · exact .junk h1
  | @sl i o n c p hp hn hc hl =>
    simp only [reL]; split
    · rename_i b' e; exact .sl (reB_some.2 ⟨_, lk_rk hσ e, hp⟩) hn hc hl
    · exact .junk h1
  | @slz i o a p hp ha =>
    simp only [reL]; split
    · rename_i b' e; exact .slz (reB_some.2 ⟨_, lk_rk hσ e, hp⟩) ha
    · exact .junk h1
  | @mp i p hp hn =>
    simp only [reL]; split
    · rename_i b' e; exact .mp (reB_some.2 ⟨_, lk_rk hσ e, hp⟩) hn
    · exact .junk h1
  | @it i p hp hn =>
    simp only [reL]; split
    · rename_i b' e; exact .it (reB_some.2 ⟨_, lk_rk hσ e, hp⟩) hn
    · exact .junk h1
  | c h => cases h <;> cases hx
  | agg => cases hx
  | tup => cases hx
  | fn => cases hx
  | ifc => cases hx
  | anyp => cases hx
  | junk => cases hx
  | gone => cases hx
theorem HRel.re {F : Nat → Prop} {β : Emb} {H H' : List (Nat × AObj)} {w : World} (h : HRel F β H w) {σ : List (Nat × Nat)} (hσ : okS σ = true) (hH : pickS σ σ H = some H') : HRel F (reB σ β) H' w := by
  have hO : ∀ k, off F (reB σ β) k → off F β k ∨ w.heap.size ≤ k := fun k hk => .inl (hk.imp id reB_own)
  refine ⟨fun b o ho => ?_, fun b p hp => ?_, fun b b' p p' hp hp' hn hn' hbb => ?_, h.fresh, fun b p hp => ?_, h.glob.mono (Nat.le_refl _) hO (fun _ _ _ => rfl)⟩
  · rw [hget_pickS hH] at ho
    split at ho
    · rename_i a ha
      rw [Option.map_eq_some_iff] at ho
      obtain ⟨ob, hob, rfl⟩ := ho
      obtain ⟨p, hp, hr⟩ := h.obj a ob hob
      exact ⟨p, reB_some.2 ⟨a, ha, hp⟩, hr.mapN (Nat.le_refl _) hO (fun _ _ _ => rfl) (reL_rel hσ) (fun _ => rfl)⟩
    · cases ho
  · obtain ⟨a, ha, hp⟩ := reB_some.1 hp
    obtain ⟨o, ho⟩ := h.dom a p hp
    exact ⟨_, by rw [hget_pickS hH, ha]; simp only [ho]; rfl⟩
  · obtain ⟨a, ha, hp⟩ := reB_some.1 hp
    obtain ⟨a', ha', hp'⟩ := reB_some.1 hp'
    have := h.inj a a' p p' hp hp' hn hn' hbb
    subst this
    have h1 := rk_lk hσ ha
    have h2 := rk_lk hσ ha'
    rw [h1] at h2; cases h2; rfl
  · obtain ⟨a, ha, hp⟩ := reB_some.1 hp
    exact h.apart a p hp
/-- A state, its objects under new names, those that bear none let go. -/
theorem Sat.re {c : Ctx} {T : List (Nat × AV)} {H H' : List (Nat × AObj)} {M M' N : List Nat} {a : Act} {w : World} (h : Sat c ⟨T, H, M⟩ a w) (σ : List (Nat × Nat)) (hσ : okS σ = true) (hH : pickS σ σ H = some H')
    (hN : ∀ b p, c.β0 b = some p → mem b N = true) (hM : okM σ M M' N = true) : Sat c ⟨mapT (reL σ) T, H', M'⟩ a w := by
  obtain ⟨β, hs⟩ := h
  have hO : ∀ k, off c.F (reB σ β) k → off c.F β k ∨ w.heap.size ≤ k := fun k hk => .inl (hk.imp id reB_own)
  refine ⟨reB σ β, hs.defers, hs.size, hs.heap.re hσ hH, fun i x hx => ?_, ?_, fun b p hp hm => ?_⟩
  · rw [get_mapT, Option.map_eq_some_iff] at hx
    obtain ⟨y, hy, rfl⟩ := hx
    obtain ⟨u, hu, hr⟩ := hs.slot i y hy
    exact ⟨u, hu, hr.mapN (Nat.le_refl _) hO (fun _ _ _ => rfl) (reL_rel hσ)⟩
  · exact ⟨hs.keeps.os, hs.keeps.tape, hs.keeps.output, hs.keeps.size, hs.keeps.block, fun k hk => hs.keeps.grows k (reB_own hk)⟩
  · obtain ⟨h1, h2⟩ := okM_get hM (hN b p hp) hm
    exact reB_some.2 ⟨b, lk_rk hσ h1, hs.stay b p hp h2⟩
/-- The same, some slots alone. -/
theorem Sat.to {c : Ctx} {T T' : List (Nat × AV)} {H H' : List (Nat × AObj)} {M M' N : List Nat} {a : Act} {w : World} (h : Sat c ⟨T, H, M⟩ a w) (σ : List (Nat × Nat)) (hσ : okS σ = true) (hH : pickS σ σ H = some H')
    (hT : Sub T' (mapT (reL σ) T)) (hN : ∀ b p, c.β0 b = some p → mem b N = true) (hM : okM σ M M' N = true) : Sat c ⟨T', H', M'⟩ a w := (h.re σ hσ hH hN hM).sub hT

/-! ### Contracts -/
/-- What a call does: its result, the objects that are there behind it, and which of the given ones may have been moved. -/
def XSpec (P : Program) (k : FuncId) (args : List AV) (H : List (Nat × AObj)) (r : AV) (H' : List (Nat × AObj)) (mv : List Nat) : Prop := ASpec P k args H (fun r' H'' M => r' = r ∧ H'' = H' ∧ M = mv)
theorem PSpec.x {P : Program} {k : FuncId} {args : List AV} {r : AV} (h : PSpec P k args r) : XSpec P k args [] r [] [] :=
  ⟨h.1, fun F β w vs hH ha => (h.2 F β w vs hH ha).mono fun e w' ⟨r', v, H', M, β', he, ⟨h1, h2⟩, h3, h4, h5, h6⟩ => ⟨r', v, H', [], β', he, ⟨h1, h2, rfl⟩, h3, h4, h5, fun b p hp => by obtain ⟨o, ho⟩ := hH.dom b p hp; cases ho⟩⟩
theorem XSpec.p {P : Program} {k : FuncId} {args : List AV} {r : AV} (h : XSpec P k args [] r [] []) : PSpec P k args r := ASpec.mono h fun r' H M ⟨h1, h2, _⟩ => ⟨h1, h2⟩

/-- The walk into a function. -/
theorem X_of_run {P : Program} {U : List (Nat × TI)} (hU : TabOk P U) {k : FuncId} {fn : Func} {code : Code} {args : List AV} {H : List (Nat × AObj)} {Q : Post} (hf : P.funcs[k]? = some fn)
    (h : ∀ F β w, (∀ b p, β b = some p → mem b (hnames H) = true) → Run ⟨P, U, hU, F, β, w, fn.ntmps⟩ (bodyPost P fn (Rpost Q F β w)) code ⟨enumT 0 args, H, []⟩)
    (hb : fn.body = some code := by exact rfl) (hname : (fn.name == "runtime.NumGoroutine") = false := by kernel_rfl) (hn : Nat.ble args.length fn.ntmps = true := by exact rfl) : ASpec P k args H Q :=
  ASpec_of_run' hU hf hb hname hn fun F β w hβ => h F β w fun b p hp => let ⟨o, ho⟩ := hβ b p hp; hnames_mem ho

/-- The return. -/
theorem ret_x {P : Program} {U : List (Nat × TI)} {hU : TabOk P U} {F : Nat → Prop} {β : Emb} {w0 : World} {N : Nat} {fn : Func} {T : List (Nat × AV)} {H H' : List (Nat × AObj)} {M Nm mv : List Nat} {r r' : AV} (σ : List (Nat × Nat))
    (hN : ∀ b p, β b = some p → mem b Nm = true) (hres : resAV U T H fn.results.toList = some r') (hσ : okS σ = true) (hr : r'.mapN (reL σ) = r) (hH : pickS σ σ H = some H') (hM : okM σ M mv Nm = true) {a : Act} {w : World} (hs : Sat ⟨P, U, hU, F, β, w0, N⟩ ⟨T, H, M⟩ a w) :
    a.defers = [] ∧ ∃ v, (results fn a.tmps).run P w = .ok v w ∧ Rpost (fun x H'' M' => x = r ∧ H'' = H' ∧ M' = mv) F β w0 (.returned v) w := by
  obtain ⟨β', hs⟩ := hs
  obtain ⟨u, hu, hv⟩ := run_results hs hres
  have hO : ∀ k, off F (reB σ β') k → off F β' k ∨ w.heap.size ≤ k := fun k hk => .inl (hk.imp id reB_own)
  refine ⟨hs.defers, u, hu, r, u, H', mv, reB σ β', rfl, ⟨rfl, rfl, rfl⟩, hs.heap.re hσ hH, ?_, ?_, fun b p hp hm => ?_⟩
  · rw [← hr]; exact VRel.mapN (Nat.le_refl _) hO (fun _ _ _ => rfl) (reL_rel hσ) hv
  · exact ⟨hs.keeps.os, hs.keeps.tape, hs.keeps.output, hs.keeps.size, hs.keeps.block, fun k hk => hs.keeps.grows k (reB_own hk)⟩
  · obtain ⟨h1, h2⟩ := okM_get hM (hN b p hp) hm
    exact reB_some.2 ⟨b, lk_rk hσ h1, hs.stay b p hp h2⟩

/-! ### Other names for a contract's objects: swaps -/
def swp : List (Nat × Nat) → Nat → Nat
  | [], i => i
  | (a, b) :: r, i => match Nat.beq i a with
    | true => b
    | false => match Nat.beq i b with
      | true => a
      | false => swp r i
def swN : List (Nat × Nat) → List Nat
  | [] => []
  | (a, b) :: r => a :: b :: swN r
def nodupB : List Nat → Bool
  | [] => true
  | x :: r => !mem x r && nodupB r
theorem swp_out : ∀ {ws : List (Nat × Nat)} {i : Nat}, mem i (swN ws) = false → swp ws i = i
  | [], _, _ => rfl
  | (a, b) :: r, i, h => by
    simp only [swN, mem_cons, Bool.or_eq_false_iff, decide_eq_false_iff_not] at h
    simp only [swp]
    split
    · rename_i e; exact absurd (Nat.eq_of_beq_eq_true e).symm h.1
    · split
      · rename_i e; exact absurd (Nat.eq_of_beq_eq_true e).symm h.2.1
      · exact swp_out h.2.2
theorem swp_in : ∀ {ws : List (Nat × Nat)} {i : Nat}, mem i (swN ws) = true → mem (swp ws i) (swN ws) = true
  | [], _, h => by cases h
  | (a, b) :: r, i, h => by
    simp only [swp]
    split
    · simp [swN, mem_cons]
    · rename_i e1
      split
      · simp [swN, mem_cons]
      · rename_i e2
        have e1 := Nat.ne_of_beq_eq_false e1
        have e2 := Nat.ne_of_beq_eq_false e2
        have h' : mem i (swN r) = true := by simpa [swN, mem_cons, Ne.symm e1, Ne.symm e2] using h
        simp [swN, mem_cons, swp_in h']
theorem swp_swp : ∀ {ws : List (Nat × Nat)} (h : nodupB (swN ws) = true) (i : Nat), swp ws (swp ws i) = i
  | [], _, _ => rfl
  | (a, b) :: r, h, i => by
    simp only [swN, nodupB, Bool.and_eq_true, Bool.not_eq_true', mem_cons, Bool.or_eq_false_iff, decide_eq_false_iff_not] at h
    obtain ⟨⟨hba, ha⟩, hb, hr⟩ := h
    by_cases e1 : i = a
    · subst e1
      simp only [swp, Nat.beq_refl]
      split
      · rename_i e; exact Nat.eq_of_beq_eq_true e
      · rfl
    · by_cases e2 : i = b
      · subst e2
        have : Nat.beq i a = false := beqF hba
        simp only [swp, this, Nat.beq_refl]
      · have b1 : Nat.beq i a = false := beqF e1
        have b2 : Nat.beq i b = false := beqF e2
        have h0 : swp ((a, b) :: r) i = swp r i := by simp only [swp, b1, b2]
        rw [h0]
        have ne : swp r i ≠ a ∧ swp r i ≠ b := by
          cases hm : mem i (swN r) with
          | true =>
            have := swp_in hm
            exact ⟨fun e => (by rw [e, ha] at this; cases this), fun e => (by rw [e, hb] at this; cases this)⟩
          | false => rw [swp_out hm]; exact ⟨e1, e2⟩
        have c1 : Nat.beq (swp r i) a = false := beqF ne.1
        have c2 : Nat.beq (swp r i) b = false := beqF ne.2
        simp only [swp, c1, c2]
        exact swp_swp hr i
def swL (ws : List (Nat × Nat)) : AV → AV
  | .nptr z b o => .nptr z (swp ws b) o
  | .sl b o n => .sl (swp ws b) o n
  | .mp b => .mp (swp ws b)
  | .it b => .it (swp ws b)
  | x => x
def swH (ws : List (Nat × Nat)) : List (Nat × AObj) → List (Nat × AObj)
  | [] => []
  | (b, o) :: r => (swp ws b, o.mapN (swL ws)) :: swH ws r
theorem hget_swH {ws : List (Nat × Nat)} (hw : nodupB (swN ws) = true) : ∀ (H : List (Nat × AObj)) (i : Nat), hget (swH ws H) i = (hget H (swp ws i)).map (AObj.mapN (swL ws))
  | [], i => rfl
  | (b, o) :: r, i => by
    rw [swH, hget_cons, hget_cons, hget_swH hw r]
    by_cases e : swp ws b = i
    · have : b = swp ws i := by rw [← e, swp_swp hw]
      rw [if_pos e, if_pos this]; rfl
    · have : b ≠ swp ws i := fun h => e (by rw [h, swp_swp hw])
      rw [if_neg e, if_neg this]
def swB (ws : List (Nat × Nat)) (β : Emb) : Emb := fun b => β (swp ws b)
theorem swB_own {ws : List (Nat × Nat)} (hw : nodupB (swN ws) = true) {β : Emb} {k : Nat} : own (swB ws β) k ↔ own β k := by
  constructor
  · rintro ⟨b, p, hp, hn, hk⟩; exact ⟨_, p, hp, hn, hk⟩
  · rintro ⟨b, p, hp, hn, hk⟩; exact ⟨swp ws b, p, by simp only [swB, swp_swp hw]; exact hp, hn, hk⟩
theorem swB_off {ws : List (Nat × Nat)} (hw : nodupB (swN ws) = true) {F : Nat → Prop} {β : Emb} {k : Nat} : off F (swB ws β) k ↔ off F β k := by simp [off, swB_own hw]
theorem swL_rel {F : Nat → Prop} {β : Emb} {w : World} {ws : List (Nat × Nat)} (hw : nodupB (swN ws) = true) (x : AV) (v : Value) (hx : x.leaf = true) (hv : VRel F β w x v) : VRel F (swB ws β) w (swL ws x) v := by
  have key : ∀ {b p}, β b = some p → swB ws β (swp ws b) = some p := fun {b p} hp => by simp only [swB, swp_swp hw]; exact hp
  cases hv with
  | ptr hp hn => exact .ptr (key hp) hn
  | pnil => exact .pnil
  | sl hp hn hc hl => exact .sl (key hp) hn hc hl
  | slz hp ha => exact .slz (key hp) ha
  | mp hp hn => exact .mp (key hp) hn
  | it hp hn => exact .it (key hp) hn
  | c h => cases h <;> cases hx
  | agg => cases hx
  | tup => cases hx
  | fn => cases hx
  | ifc => cases hx
  | anyp => cases hx
  | junk => cases hx
  | gone => cases hx
theorem VRel.sw {F : Nat → Prop} {β : Emb} {w : World} {ws : List (Nat × Nat)} (hw : nodupB (swN ws) = true) {x : AV} {v : Value} (h : VRel F β w x v) : VRel F (swB ws β) w (x.mapN (swL ws)) v :=
  VRel.mapN (Nat.le_refl _) (fun k hk => .inl ((swB_off hw).1 hk)) (fun _ _ _ => rfl) (swL_rel hw) h
theorem HRel.sw {F : Nat → Prop} {β : Emb} {H : List (Nat × AObj)} {w : World} {ws : List (Nat × Nat)} (hw : nodupB (swN ws) = true) (h : HRel F β H w) : HRel F (swB ws β) (swH ws H) w := by
  refine ⟨fun b o ho => ?_, fun b p hp => ?_, fun b b' p p' hp hp' hn hn' hbb => ?_, h.fresh, fun b p hp => h.apart _ p hp, h.glob.mono (Nat.le_refl _) (fun k hk => .inl ((swB_off hw).1 hk)) (fun _ _ _ => rfl)⟩
  · rw [hget_swH hw, Option.map_eq_some_iff] at ho
    obtain ⟨ob, hob, rfl⟩ := ho
    obtain ⟨p, hp, hr⟩ := h.obj _ ob hob
    exact ⟨p, hp, hr.mapN (Nat.le_refl _) (fun k hk => .inl ((swB_off hw).1 hk)) (fun _ _ _ => rfl) (swL_rel hw) (fun _ => rfl)⟩
  · obtain ⟨o, ho⟩ := h.dom _ p hp
    exact ⟨_, by rw [hget_swH hw, ho]; rfl⟩
  · have := h.inj _ _ p p' hp hp' hn hn' hbb
    rw [← swp_swp hw b, this, swp_swp hw]
theorem mem_map_swp {ws : List (Nat × Nat)} (hw : nodupB (swN ws) = true) (i : Nat) : ∀ l : List Nat, mem i (l.map (swp ws)) = mem (swp ws i) l
  | [] => rfl
  | x :: r => by
    rw [List.map_cons, mem_cons, mem_cons, mem_map_swp hw i r]
    congr 1
    have : (swp ws x = i) = (x = swp ws i) := propext ⟨fun h => by rw [← h, swp_swp hw], fun h => by rw [h, swp_swp hw]⟩
    simp only [this]
/-- The contract, under other names. -/
theorem XSpec.sw {P : Program} {k : FuncId} {args args0 : List AV} {H H0 H' : List (Nat × AObj)} {r : AV} {mv : List Nat} (ws : List (Nat × Nat)) (h : XSpec P k args H r H' mv) (hw : nodupB (swN ws) = true) (ha : AV.mapNL (swL ws) args0 = args) (hH : swH ws H0 = H) :
    XSpec P k args0 H0 (r.mapN (swL ws)) (swH ws H') (mv.map (swp ws)) := by
  refine ⟨h.1, fun F β w vs hH0 hA => ?_⟩
  have hA' : Args F (swB ws β) w args vs := by
    rw [← ha, mapNL_map]
    refine ⟨by simpa using hA.1, fun i x v hx hv => ?_⟩
    rw [List.getElem?_map, Option.map_eq_some_iff] at hx
    obtain ⟨y, hy, rfl⟩ := hx
    exact (hA.2 i y v hy hv).sw hw
  refine (h.2 F (swB ws β) w vs (by rw [← hH]; exact hH0.sw hw) hA').mono ?_
  rintro e w' ⟨r', v, H'', M, β', he, ⟨rfl, rfl, rfl⟩, h1, h2, h3, h4⟩
  refine ⟨_, v, _, _, swB ws β', he, ⟨rfl, rfl, rfl⟩, h1.sw hw, h2.sw hw, ?_, fun b p hp hm => ?_⟩
  · exact ⟨h3.os, h3.tape, h3.output, h3.size, fun i hi hn => h3.block i hi (fun ho => hn ((swB_own hw).1 ho)), fun i hi => (h3.grows i ((swB_own hw).1 hi)).imp (swB_own hw).1 id⟩
  · rw [mem_map_swp hw] at hm
    exact h4 _ p (by simp only [swB, swp_swp hw]; exact hp) hm
end Go.Abs
