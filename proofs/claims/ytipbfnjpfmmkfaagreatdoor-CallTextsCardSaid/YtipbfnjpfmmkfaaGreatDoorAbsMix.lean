/-
  REGIONS OF OPEN ORDER in which some operations have an effect: one walk, of one order, serves every order. Generic over the program. Conditions: none.
-/
import Derived.Test.YtipbfnjpfmmkfaaGreatDoorAbsFrame
import Derived.OrdersHeld
set_option linter.unusedVariables false
set_option linter.unusedSectionVars false
namespace Go.Abs
open Go
variable [GTab]

section
variable {P : Program} {ops : Array Oper} {Q : Exit → Act → World → Prop}
/-- What is asked behind, and no panic. -/
def Qn (Q : Exit → Act → World → Prop) : Exit → Act → World → Prop
  | .panic _, _, _ => False
  | e, a, w => Q e a w
theorem letsOut_of (h : LetsOut (Qn Q)) : LetsOut Q := h
theorem Oper.wp_n {o : Oper} {a : Act} {w : World} {K : Act → World → Prop} (hh : o.wp P a w K (Qn Q)) : o.wp P a w K Q := by
  unfold Oper.wp at *
  generalize (execOp a.eval o).run P w = r at *
  cases r with
  | ok n w' =>
    cases n <;> simp only [Oper.upon] at hh ⊢ <;>
      first
        | exact hh
        | exact Calls.mono hh (fun e w'' he => by cases e <;> first | exact he | exact he.elim | exact letsOut_of he)
  | halt x w' => cases x <;> simp only [Oper.upon] at hh ⊢ <;> first | exact hh | exact hh.elim

/-- Whatever order is picked from here on; behind each operation that is not hot, what stood ahead of it is as it was. -/
def wpAnyK (P : Program) (ops : Array Oper) (hot : List Nat) (Q : Exit → Act → World → Prop) : Nat → Array Bool → Act → World → Prop
  | 0, listed, a, w => Region.ready .any ops listed = [] ∧ Q .normal a w
  | fuel + 1, listed, a, w =>
    (Region.ready .any ops listed = [] → Q .normal a w) ∧
    ∀ i ∈ Region.ready .any ops listed, wpOp P ops (Qn Q) i (fun a' w' => (mem i hot = true ∨ RowKit.Below w.heap.size w w') ∧ wpAnyK P ops hot Q fuel (listed.setIfInBounds i true) a' w') a w
theorem wpAny_of_K {hot : List Nat} : ∀ (fuel : Nat) (listed : Array Bool) (a : Act) (w : World), wpAnyK P ops hot Q fuel listed a w → wpAny P .any ops Q fuel listed a w
  | 0, _, _, _, h => h
  | fuel + 1, _, _, _, h => ⟨h.1, fun i hi => by
    have h1 := wpOp_mono (fun a' w' h' => wpAny_of_K fuel _ a' w' h'.2) (h.2 i hi)
    unfold wpOp at *
    split
    · rename_i ho; simpa [ho] using h1
    · rename_i o ho
      simp only [ho] at h1
      split
      · rename_i hw; simp only [hw, if_true] at h1; exact h1.imp Oper.wp_n (fun h => ⟨h.1, letsOut_of h.2⟩)
      · rename_i hw; simp only [hw] at h1; exact h1⟩

/-- Number j waits for number i, by one step or by more. -/
def waits (ops : Array Oper) : Nat → Nat → Nat → Bool
  | 0, _, _ => false
  | n + 1, j, i => match ops[j]? with
    | some oj => oj.after.any fun e => Region.binds .any e && (Nat.beq e.on i || waits ops n e.on i)
    | none => false
/-- Each hot operation that has not come up waits for number i. -/
def hotOk (ops : Array Oper) (hot : List Nat) (listed : Array Bool) (i : Nat) : Bool :=
  hot.all fun j => listed.getD j true || waits ops ops.size j i
/-- Whoever has come up, so has all that it waits for. -/
def Closed (ops : Array Oper) (listed : Array Bool) : Prop := ∀ j oj, ops[j]? = some oj → listed.getD j true = true → ∀ e ∈ oj.after, Region.binds .any e = true → listed.getD e.on false = true
theorem mem_iff {b : Nat} : ∀ {l : List Nat}, mem b l = true ↔ b ∈ l
  | [] => by simp [mem]
  | x :: r => by rw [mem_cons, Bool.or_eq_true, mem_iff (l := r), List.mem_cons]; simp [eq_comm]
theorem getD_of {listed : Array Bool} {i : Nat} (h : listed.getD i false = true) : listed.getD i true = true := by
  rcases Nat.lt_or_ge i listed.size with h' | h'
  · simpa [h'] using h
  · simp [Array.getElem?_eq_none h'] at h
theorem waits_spec {listed : Array Bool} (hc : Closed ops listed) {i : Nat} : ∀ (n j : Nat), waits ops n j i = true → (∀ oj, ops[j]? = some oj → ∀ e ∈ oj.after, Region.binds .any e = true → listed.getD e.on false = true) → listed.getD i false = true
  | 0, _, h, _ => by cases h
  | n + 1, j, h, hall => by
    simp only [waits] at h
    split at h
    · rename_i oj ho
      obtain ⟨e, he, hb⟩ := Array.any_eq_true'.1 h
      simp only [Bool.and_eq_true, Bool.or_eq_true] at hb
      obtain ⟨hb1, hb2⟩ := hb
      have hl := hall oj ho e he hb1
      rcases hb2 with h2 | h2
      · rw [← Nat.eq_of_beq_eq_true h2]; exact hl
      · exact waits_spec hc n e.on h2 fun ok hk e' he' hb' => hc e.on ok hk (getD_of hl) e' he' hb'
    · cases h
theorem hotOk_mono {hot : List Nat} {listed : Array Bool} {i j : Nat} (h : hotOk ops hot listed i = true) : hotOk ops hot (listed.setIfInBounds j true) i = true := by
  simp only [hotOk, List.all_eq_true] at *
  intro k hk
  have h1 := h k hk
  by_cases e : j = k
  · subst e
    by_cases hlt : j < listed.size
    · simp [hlt]
    · simp [hlt]
  · rw [getD_set_ne true e]; exact h1
theorem Closed.set {listed : Array Bool} (hc : Closed ops listed) {j : Nat} (hj : j ∈ Region.ready .any ops listed) : Closed ops (listed.setIfInBounds j true) := by
  intro k ok hk hl e he hb
  obtain ⟨_, oj, hoj, hall⟩ := mem_ready.1 hj
  by_cases h : j = k
  · subst h
    rw [hoj] at hk; cases hk
    exact getD_set_true (hall e he hb)
  · rw [getD_set_ne true h] at hl
    exact getD_set_true (hc k ok hk hl e he hb)
theorem Closed.start (ops : Array Oper) : Closed ops (Array.replicate ops.size false) := by
  intro j oj hj hl
  have : j < ops.size := (Array.getElem?_eq_some_iff.1 hj).1
  simp [this] at hl

theorem YieldsIf.less {S S' : World → Prop} (h : ∀ w, S' w → S w) {o : Oper} {v : Value} {a : Act} (hy : YieldsIf P ops S o v a) : YieldsIf P ops S' o v a :=
  hy.imp (fun ⟨hw, hv⟩ => ⟨hw, fun w hS => hv w (h w hS)⟩) id

theorem wpAnyK_first {hot : List Nat} {i : Nat} {oi : Oper} {v : Value} (hi : ops[i]? = some oi) (hsel : ∀ (j : Nat) (o : Oper) cs b, ops[j]? = some o → o.op ≠ .select cs b) :
    ∀ (fuel : Nat) (listed : Array Bool) (a : Act) (w : World),
      (∀ j oj, ops[j]? = some oj → j ≠ i → listed.getD j true = false → (∀ e ∈ oj.after, Region.binds .any e = true → e.on ≠ i) → oi.apart ops oj = true) →
      Closed ops listed →
      i ∈ Region.ready .any ops listed → ((hotOk ops hot listed i = true ∧ YieldsIf P ops (RowKit.Below w.heap.size w) oi v a) ∨ YieldsIf P ops (fun _ => True) oi v a) →
      wpAnyK P ops hot Q fuel (listed.setIfInBounds i true) (a.put oi.dst v) w → wpAnyK P ops hot Q (fuel + 1) listed a w := by
  have hQ : ∀ c a w, Qn Q (.panic c) (a.put oi.dst v) w → Qn Q (.panic c) a w := fun _ _ _ h => h
  intro fuel
  induction fuel with
  | zero =>
    intro listed a w _ _ hr hy H
    have hy0 : YieldsIf P ops (RowKit.Below w.heap.size w) oi v a := hy.elim (·.2) (YieldsIf.less (fun _ _ => trivial))
    refine ⟨fun h => (by rw [h] at hr; cases hr), fun j hj => ?_⟩
    by_cases hji : j = i
    · subst hji; exact hy0.wpOp hi (RowKit.Below.refl _ _) ⟨.inr (RowKit.Below.refl _ _), H⟩
    · have := ready_mono hj hji
      rw [H.1] at this
      cases this
  | succ fuel ih =>
    intro listed a w hfree hcl hr hy H
    have hy0 : YieldsIf P ops (RowKit.Below w.heap.size w) oi v a := hy.elim (·.2) (YieldsIf.less (fun _ _ => trivial))
    refine ⟨fun h => (by rw [h] at hr; cases hr), fun j hj => ?_⟩
    by_cases hji : j = i
    · subst hji; exact hy0.wpOp hi (RowKit.Below.refl _ _) ⟨.inr (RowKit.Below.refl _ _), H⟩
    · have h1 := H.2 j (ready_mono hj hji)
      obtain ⟨hjun, oj, hoj, hall⟩ := mem_ready.1 hj
      have hnot : ∀ e ∈ oj.after, Region.binds .any e = true → e.on ≠ i := fun e he hb heq => by
        have h1 := hall e he hb
        have h0 := (mem_ready.1 hr).1
        rw [heq] at h1
        rcases Nat.lt_or_ge i listed.size with h' | h'
        · simp [h'] at h0 h1; rw [h0] at h1; cases h1
        · simp [Array.getElem?_eq_none h'] at h1
      have hfree' : ∀ k ok, ops[k]? = some ok → k ≠ i → (listed.setIfInBounds j true).getD k true = false →
          (∀ e ∈ ok.after, Region.binds .any e = true → e.on ≠ i) → oi.apart ops ok = true := fun k ok hk hki hun hno => by
        refine hfree k ok hk hki ?_ hno
        by_cases hjk : j = k
        · subst hjk; exact hjun
        · rw [getD_set_ne true hjk] at hun; exact hun
      rcases hy with ⟨hhot, hy⟩ | hy
      · have hcold : mem j hot = false := by
          cases hm : mem j hot with
          | false => rfl
          | true =>
            simp only [hotOk, List.all_eq_true] at hhot
            have h1 := hhot j (mem_iff.1 hm)
            rw [hjun, Bool.false_or] at h1
            have h2 := waits_spec hcl _ j h1 fun ok hk e he hb => by rw [hoj] at hk; cases hk; exact hall e he hb
            have h0 := (mem_ready.1 hr).1
            rw [getD_of h2] at h0; cases h0
        have h2 := wpOp_putIf (S := RowKit.Below w.heap.size w) hoj (hfree j oj hoj hji hjun hnot) (fun cs b => hsel i oi cs b hi) (fun cs b => hsel j oj cs b hoj) hQ hy h1
        refine wpOp_mono (fun a' w' h3 => ?_) h2
        obtain ⟨hy', hbel, hK⟩ := h3
        have hbel : RowKit.Below w.heap.size w w' := hbel.resolve_left (by rw [hcold]; simp)
        refine ⟨.inr hbel, ih (listed.setIfInBounds j true) a' w' hfree' (hcl.set hj) (ready_mono hr (Ne.symm hji)) (.inl ⟨hotOk_mono hhot, YieldsIf.less (fun w'' hb => ?_) hy'⟩) ?_⟩
        · exact ⟨hb.os.trans hbel.os, hb.tape.trans hbel.tape, hb.output.trans hbel.output, Nat.le_trans hbel.size hb.size, fun k hk => (hb.block k (Nat.lt_of_lt_of_le hk hbel.size)).trans (hbel.block k hk)⟩
        · rw [Array.setIfInBounds_comm _ _ hji]
          exact hK
      · have h2 := wpOp_putIf (S := fun _ => True) hoj (hfree j oj hoj hji hjun hnot) (fun cs b => hsel i oi cs b hi) (fun cs b => hsel j oj cs b hoj) hQ hy h1
        refine wpOp_mono (fun a' w' h3 => ?_) h2
        obtain ⟨hy', hbel, hK⟩ := h3
        refine ⟨hbel, ih (listed.setIfInBounds j true) a' w' hfree' (hcl.set hj) (ready_mono hr (Ne.symm hji)) (.inr hy') ?_⟩
        rw [Array.setIfInBounds_comm _ _ hji]
        exact hK

/-- The walk's plan: 'q': taken first, it has no effect; 'e': it has an effect, and is the only one that may come up; 'two': two with an effect may come up, either of them does. -/
inductive Plan where
  | done
  | q (i : Nat) (r : Plan)
  | e (i : Nat) (r : Plan)
  | two (i j : Nat) (x y : Plan)
  | s (i : Nat) (r : Plan)
  | alt (i : Nat) (x r : Plan)
def Plan.step (e : Bool) (i : Nat) (r : Plan) : Plan := match e with | true => .e i r | false => .q i r
def Plan.deep : Nat → Plan → Bool
  | 0, .done => true
  | n + 1, .q _ r => Plan.deep n r
  | n + 1, .e _ r => Plan.deep n r
  | n + 1, .two _ _ x y => Plan.deep n x && Plan.deep n y
  | n + 1, .s _ r => Plan.deep n r
  | n + 1, .alt _ x r => Plan.deep n x && Plan.deep (n + 1) r
  | _, _ => false
def Plan.heads : Plan → List Nat
  | .alt i _ r => i :: Plan.heads r
  | .e i _ => [i]
  | _ => []
def mixB (ops : Array Oper) (hot : List Nat) : Bool → Plan → Array Bool → Bool
  | true, .done, listed => match Region.ready .any ops listed with | [] => true | _ => false
  | true, .q i r, listed => (Region.ready .any ops listed).contains i && Region.free .any ops listed i && hotOk ops hot listed i && mixB ops hot true r (listed.setIfInBounds i true)
  | true, .s i r, listed => (Region.ready .any ops listed).contains i && Region.free .any ops listed i && mixB ops hot true r (listed.setIfInBounds i true)
  | c, .e i r, listed => (match c with | true => (match Region.ready .any ops listed with | [j] => Nat.beq j i | _ => false) | false => true) && mixB ops hot true r (listed.setIfInBounds i true)
  | true, .two i j x y, listed => (match Region.ready .any ops listed with | [a, b] => Nat.beq a i && Nat.beq b j | _ => false) && (mixB ops hot true x (listed.setIfInBounds i true) && mixB ops hot true y (listed.setIfInBounds j true))
  | c, .alt i x r, listed => (match c with | true => !(Region.ready .any ops listed).isEmpty && (Region.ready .any ops listed).all fun k => mem k (i :: Plan.heads r) | false => true) && (mixB ops hot true x (listed.setIfInBounds i true) && mixB ops hot false r listed)
  | _, _, _ => false

/-- The walk of that plan. -/
def wpMix (P : Program) (ops : Array Oper) (hot : List Nat) (Q : Exit → Act → World → Prop) : Plan → Act → World → Prop
  | .done, a, w => Q .normal a w
  | .q i r, a, w => match ops[i]? with
    | none => False
    | some o => ∃ v, YieldsIf P ops (RowKit.Below w.heap.size w) o v a ∧ wpMix P ops hot Q r (a.put o.dst v) w
  | .s i r, a, w => match ops[i]? with
    | none => False
    | some o => ∃ v, YieldsIf P ops (fun _ => True) o v a ∧ wpMix P ops hot Q r (a.put o.dst v) w
  | .alt i x r, a, w => wpOp P ops (Qn Q) i (fun a' w' => (mem i hot = true ∨ RowKit.Below w.heap.size w w') ∧ wpMix P ops hot Q x a' w') a w ∧ wpMix P ops hot Q r a w
  | .e i r, a, w => wpOp P ops (Qn Q) i (fun a' w' => (mem i hot = true ∨ RowKit.Below w.heap.size w w') ∧ wpMix P ops hot Q r a' w') a w
  | .two i j x y, a, w => wpOp P ops (Qn Q) i (fun a' w' => (mem i hot = true ∨ RowKit.Below w.heap.size w w') ∧ wpMix P ops hot Q x a' w') a w ∧
      wpOp P ops (Qn Q) j (fun a' w' => (mem j hot = true ∨ RowKit.Below w.heap.size w w') ∧ wpMix P ops hot Q y a' w') a w

theorem alt_get {hot : List Nat} {n : Nat} : ∀ (p : Plan) (listed : Array Bool) (a : Act) (w : World), Plan.deep (n + 1) p = true → mixB ops hot false p listed = true → wpMix P ops hot Q p a w → ∀ k, mem k p.heads = true →
    ∃ x, Plan.deep n x = true ∧ mixB ops hot true x (listed.setIfInBounds k true) = true ∧ wpOp P ops (Qn Q) k (fun a' w' => (mem k hot = true ∨ RowKit.Below w.heap.size w w') ∧ wpMix P ops hot Q x a' w') a w
  | .e i r, listed, a, w, hd, hB, h, k, hk => by
    simp only [Plan.heads, mem_cons, mem, Bool.or_false, decide_eq_true_eq] at hk
    subst hk
    simp only [mixB, Bool.true_and] at hB
    exact ⟨r, hd, hB, h⟩
  | .alt i x r, listed, a, w, hd, hB, h, k, hk => by
    simp only [Plan.deep, Bool.and_eq_true] at hd
    simp only [mixB, Bool.true_and, Bool.and_eq_true] at hB
    simp only [Plan.heads, mem_cons, Bool.or_eq_true, decide_eq_true_eq] at hk
    rcases hk with rfl | hk
    · exact ⟨x, hd.1, hB.1, h.1⟩
    · exact alt_get r listed a w hd.2 hB.2 h.2 k hk
  | .done, _, _, _, _, hB, _, _, _ => by simp [mixB] at hB
  | .q _ _, _, _, _, _, hB, _, _, _ => by simp [mixB] at hB
  | .s _ _, _, _, _, _, hB, _, _, _ => by simp [mixB] at hB
  | .two _ _ _ _, _, _, _, _, hB, _, _, _ => by simp [mixB] at hB
theorem wpAnyK_of_mix {hot : List Nat} (hs : Region.noSelect ops = true) : ∀ (n : Nat) (p : Plan) (listed : Array Bool) (a : Act) (w : World), Plan.deep n p = true → Closed ops listed → mixB ops hot true p listed = true → wpMix P ops hot Q p a w → wpAnyK P ops hot Q n listed a w
  | 0, .done, listed, a, w, _, hcl, hB, h => by
    simp only [mixB] at hB
    split at hB
    · rename_i hr; exact ⟨hr, h⟩
    · cases hB
  | n + 1, .q i r, listed, a, w, hd, hcl, hB, h => by
    simp only [mixB, Bool.and_eq_true] at hB
    obtain ⟨⟨⟨hr, hf⟩, hh⟩, hB'⟩ := hB
    simp only [wpMix] at h
    split at h
    · exact h.elim
    · rename_i o ho
      obtain ⟨v, hy, hn⟩ := h
      exact wpAnyK_first ho (Region.noSelect_spec hs) _ listed a w (Region.free_spec ho hf) hcl (by simpa using hr) (.inl ⟨hh, hy⟩) (wpAnyK_of_mix hs n r _ _ _ hd (hcl.set (by simpa using hr)) hB' hn)
  | n + 1, .s i r, listed, a, w, hd, hcl, hB, h => by
    simp only [mixB, Bool.and_eq_true] at hB
    obtain ⟨⟨hr, hf⟩, hB'⟩ := hB
    simp only [wpMix] at h
    split at h
    · exact h.elim
    · rename_i o ho
      obtain ⟨v, hy, hn⟩ := h
      exact wpAnyK_first ho (Region.noSelect_spec hs) _ listed a w (Region.free_spec ho hf) hcl (by simpa using hr) (.inr hy) (wpAnyK_of_mix hs n r _ _ _ hd (hcl.set (by simpa using hr)) hB' hn)
  | n + 1, .alt i x r, listed, a, w, hd, hcl, hB, h => by
    simp only [mixB, Bool.and_eq_true] at hB
    obtain ⟨⟨hr0, hr⟩, hB1, hB2⟩ := hB
    have hB3 : mixB ops hot false (.alt i x r) listed = true := by simp only [mixB, Bool.true_and, Bool.and_eq_true]; exact ⟨hB1, hB2⟩
    have hall : ∀ k ∈ Region.ready .any ops listed, mem k (Plan.alt i x r).heads = true := fun k hk => List.all_eq_true.1 hr k hk
    refine ⟨fun h0 => ?_, fun k hk => ?_⟩
    · rw [h0] at hr0; cases hr0
    · obtain ⟨y, hy1, hy2, hy3⟩ := alt_get (.alt i x r) listed a w hd hB3 h k (hall k hk)
      exact wpOp_mono (fun a' w' h' => ⟨h'.1, wpAnyK_of_mix hs n y _ _ _ hy1 (hcl.set hk) hy2 h'.2⟩) hy3
  | n + 1, .e i r, listed, a, w, hd, hcl, hB, h => by
    simp only [mixB, Bool.and_eq_true] at hB
    obtain ⟨hr, hB'⟩ := hB
    split at hr
    · rename_i j hrd
      obtain rfl := Nat.eq_of_beq_eq_true hr
      refine ⟨fun h0 => (by rw [hrd] at h0; cases h0), fun k hk => ?_⟩
      rw [hrd] at hk
      obtain rfl := List.mem_singleton.1 hk
      simp only [wpMix] at h
      exact wpOp_mono (fun a' w' h' => ⟨h'.1, wpAnyK_of_mix hs n r _ _ _ hd (hcl.set (by rw [hrd]; simp)) hB' h'.2⟩) h
    · cases hr
  | n + 1, .two i j x y, listed, a, w, hd, hcl, hB, h => by
    simp only [mixB, Bool.and_eq_true] at hB
    simp only [Plan.deep, Bool.and_eq_true] at hd
    obtain ⟨hr, hB1, hB2⟩ := hB
    split at hr
    · rename_i a' b' hrd
      simp only [Bool.and_eq_true] at hr
      obtain rfl := Nat.eq_of_beq_eq_true hr.1
      obtain rfl := Nat.eq_of_beq_eq_true hr.2
      refine ⟨fun h0 => (by rw [hrd] at h0; cases h0), fun k hk => ?_⟩
      rw [hrd] at hk
      simp only [wpMix] at h
      rcases List.mem_cons.1 hk with rfl | hk
      · exact wpOp_mono (fun a' w' h' => ⟨h'.1, wpAnyK_of_mix hs n x _ _ _ hd.1 (hcl.set (by rw [hrd]; simp)) hB1 h'.2⟩) h.1
      · obtain rfl := List.mem_singleton.1 hk
        exact wpOp_mono (fun a' w' h' => ⟨h'.1, wpAnyK_of_mix hs n y _ _ _ hd.2 (hcl.set (by rw [hrd]; simp)) hB2 h'.2⟩) h.2
    · cases hr
def mixOk (ops : Array Oper) (hot : List Nat) (l : Plan) : Bool :=
  Region.noSelect ops && Plan.deep ops.size l && mixB ops hot true l (Array.replicate ops.size false)
theorem wp_region_mix {id : Nat} {hot : List Nat} {l : Plan} {a : Act} {w : World} (hm : P.follows .mixedOrders = true) (hB : mixOk ops hot l = true)
    (h : wpMix P ops hot Q l a { w with drawn := w.drawn + 1 }) : (Code.region id ops true).wp P Q a w := by
  simp only [mixOk, Bool.and_eq_true] at hB
  obtain ⟨⟨hs, hl⟩, hB⟩ := hB
  exact wp_region_any hm (wpAny_of_K (hot := hot) _ _ _ _ (wpAnyK_of_mix hs _ l _ a _ hl (Closed.start ops) hB h))
end

/-! ### Over abstract states -/
def RunM (c : Ctx) (ops : Array Oper) (hot : List Nat) (Q : Exit → Act → World → Prop) (l : Plan) (s : St) : Prop := ∀ a w, Sat c s a w → wpMix c.P ops hot Q l a w
/-- The same, the next operation at hand, its guard 'o.guard' or one that lets it by just where that one does. -/
def RunN (c : Ctx) (ops : Array Oper) (hot : List Nat) (Q : Exit → Act → World → Prop) (i : Nat) (e : Bool) (o : Oper) (l : Plan) (s : St) : Prop :=
  ∀ g, ops[i]? = some { o with guard := g } → (∀ a w β, SatB c s β a w → Region.wanted { o with guard := g } (yielded ops a.tmps) = Region.wanted o (yielded ops a.tmps)) → RunM c ops hot Q (Plan.step e i l) s

section
variable {c : Ctx} {ops : Array Oper} {Q : Exit → Act → World → Prop} {hot : List Nat} {l : Plan} {i : Nat} {e : Bool} {s s' : St} {o : Oper}
theorem Run_region_m {id : Nat} {lo : List Oper} (hot : List Nat) (l : Plan) (hm : c.P.follows .mixedOrders = true) (hB : mixOk lo.toArray hot l = true) (h : RunM c lo.toArray hot Q l s) : Run c Q (.region id lo.toArray true) s := by
  rintro a w ⟨β, hs⟩
  have hb : BelowD w { w with drawn := w.drawn + 1 } := ⟨⟨rfl, rfl, rfl, Nat.le_refl _, fun _ _ => rfl⟩, Nat.le_succ _⟩
  exact wp_region_mix hm hB (h a _ ⟨β, hs.later hb⟩)
theorem RunM_nil (h : Fin c Q .normal s) : RunM c ops hot Q .done s := h
theorem RunM_getq (hi : ops[i]? = some o) (h : RunN c ops hot Q i false o l s) : RunM c ops hot Q (.q i l) s := h o.guard hi (fun _ _ _ _ => rfl)
theorem RunM_gete (hi : ops[i]? = some o) (h : RunN c ops hot Q i true o l s) : RunM c ops hot Q (.e i l) s := h o.guard hi (fun _ _ _ _ => rfl)
theorem RunM_alt {x y : Plan} (h1 : RunM c ops hot Q (.e i x) s) (h2 : RunM c ops hot Q y s) : RunM c ops hot Q (.alt i x y) s := fun a w h => ⟨h1 a w h, h2 a w h⟩
def RunS (c : Ctx) (ops : Array Oper) (hot : List Nat) (Q : Exit → Act → World → Prop) (i : Nat) (o : Oper) (l : Plan) (s : St) : Prop :=
  ∀ g, ops[i]? = some { o with guard := g } → (∀ a w β, SatB c s β a w → Region.wanted { o with guard := g } (yielded ops a.tmps) = Region.wanted o (yielded ops a.tmps)) → RunM c ops hot Q (.s i l) s
theorem RunM_gets (hi : ops[i]? = some o) (h : RunS c ops hot Q i o l s) : RunM c ops hot Q (.s i l) s := h o.guard hi (fun _ _ _ _ => rfl)
theorem RunS_q {x : AV} (h : QOpS c o s x) (hg : o.guard = none) (hd : dstOk c.N o.dst = true) (hr : RunM c ops hot Q l ⟨putT s.T o.dst x, s.H, s.M⟩) : RunS c ops hot Q i o l s := by
  rintro g hi hwt a w ⟨β, hs⟩
  obtain ⟨v, hv, hrun⟩ := h a w β hs
  simp only [wpMix, hi]
  exact ⟨v, .inl ⟨(hwt a w β hs).trans (wanted_none hg _), fun w' _ => hrun w'⟩, hr _ _ ⟨β, hs.put hd hv⟩⟩
theorem RunN_q {x : AV} (h : QOp c o s x) (hg : o.guard = none) (hd : dstOk c.N o.dst = true) (hr : RunM c ops hot Q l ⟨putT s.T o.dst x, s.H, s.M⟩) : RunN c ops hot Q i false o l s := by
  rintro g hi hwt a w ⟨β, hs⟩
  obtain ⟨v, hv, hrun⟩ := h a w β hs
  simp only [Plan.step, wpMix, hi]
  exact ⟨v, .inl ⟨(hwt a w β hs).trans (wanted_none hg _), hrun⟩, hr _ _ ⟨β, hs.put hd hv⟩⟩
theorem RunN_on {j d : Nat} {b : Bool} (hg : o.guard = some (j, b)) (hj : ((ops[j]?).bind (·.dst)) = some d) (hx : get s.T d = some (.pl (.bool b))) (h : RunN c ops hot Q i e { o with guard := none } l s) : RunN c ops hot Q i e o l s :=
  fun g hi hwt => h g hi fun a w β hs => by
    rw [hwt a w β hs]
    simp [Region.wanted, hg, yielded_of hs hj hx]
theorem RunN_split {j d : Nat} {b f : Bool} (hg : o.guard = some (j, b)) (hj : ((ops[j]?).bind (·.dst)) = some d) (hxb : get s.T d = some (.pl (.bool f)))
    (ht : f = true → RunN c ops hot Q i e o l ⟨(d, .pl (.bool true)) :: s.T, s.H, s.M⟩) (hf : f = false → RunN c ops hot Q i e o l ⟨(d, .pl (.bool false)) :: s.T, s.H, s.M⟩) : RunN c ops hot Q i e o l s := by
  have hup : ∀ b, f = b → ∀ a w β, SatB c s β a w → SatB c ⟨(d, .pl (.bool b)) :: s.T, s.H, s.M⟩ β a w := by
    rintro b rfl a w β hs
    exact ⟨hs.defers, hs.size, hs.heap, fun i x hx => (by
      rw [get_cons] at hx
      by_cases e : d = i
      · rw [if_pos e] at hx; cases hx; subst e; exact hs.slot d _ hxb
      · rw [if_neg e] at hx; exact hs.slot i x hx), hs.keeps, hs.stay⟩
  rintro g hi hwt a w ⟨β, hs⟩
  cases f with
  | true =>
    refine ht rfl g hi (fun a w β hs' => hwt a w β ⟨hs'.defers, hs'.size, hs'.heap, fun i x hx => ?_, hs'.keeps, hs'.stay⟩) a w ⟨β, hup _ rfl a w β hs⟩
    refine hs'.slot i x ?_
    rw [get_cons]
    by_cases e : d = i
    · subst e; rw [if_pos rfl, ← hxb, hx]
    · rw [if_neg e]; exact hx
  | false =>
    refine hf rfl g hi (fun a w β hs' => hwt a w β ⟨hs'.defers, hs'.size, hs'.heap, fun i x hx => ?_, hs'.keeps, hs'.stay⟩) a w ⟨β, hup _ rfl a w β hs⟩
    refine hs'.slot i x ?_
    rw [get_cons]
    by_cases e : d = i
    · subst e; rw [if_pos rfl, ← hxb, hx]
    · rw [if_neg e]; exact hx
/-- An operation that only lays something new. -/
theorem RunN_eb (h : EOpB c o s s') (hg : o.guard = none) (hr : RunM c ops hot Q l s') : RunN c ops hot Q i true o l s := by
  rintro g hi hwt a w ⟨β, hs⟩
  simp only [Plan.step, wpMix, wpOp, hi, (hwt a w β hs).trans (wanted_none hg _), if_true]
  refine .inl ?_
  obtain ⟨w', β', hb, v, hrun, hs'⟩ := h a w β hs
  unfold Oper.wp; rw [show (execOp a.eval { o with guard := g }).run c.P w = _ from hrun, Oper.upon_value]; exact ⟨.inr hb, hr _ _ ⟨β', hs'⟩⟩
/-- An operation with an effect, hot. -/
theorem RunN_e (hh : mem i hot = true) (h : EOp c o s s') (hg : o.guard = none) (hr : RunM c ops hot Q l s') : RunN c ops hot Q i true o l s := by
  rintro g hi hwt a w ⟨β, hs⟩
  simp only [Plan.step, wpMix, wpOp, hi, (hwt a w β hs).trans (wanted_none hg _), if_true]
  refine .inl ?_
  obtain ⟨w', β', ⟨v, hrun, hs'⟩ | ⟨hrun, hs'⟩⟩ := h a w β hs
  · unfold Oper.wp; rw [show (execOp a.eval { o with guard := g }).run c.P w = _ from hrun, Oper.upon_value]; exact ⟨.inl hh, hr _ _ ⟨β', hs'⟩⟩
  · unfold Oper.wp; rw [show (execOp a.eval { o with guard := g }).run c.P w = _ from hrun, Oper.upon_skip]; exact ⟨.inl hh, hr _ _ ⟨β', hs'⟩⟩
end

section
variable {c : Ctx} {Q : Exit → Act → World → Prop} {T : List (Nat × AV)} {H H1 H2 H' : List (Nat × AObj)} {M : List Nat} {ops : Array Oper} {hot : List Nat} {l : Plan} {i : Nat} {d : Tmp} {ty : TypeId} {pos : String} {af : Array Edge} {cl : Call} {k : FuncId} {first cap es args : List AV} {r : AV}

theorem hrest_nil : ∀ H : List (Nat × AObj), hrest [] H = H
  | [] => rfl
  | (b, o) :: r => by simp [hrest, mem, hrest_nil r]
/-- A call that is given nothing, and leaves what it may. -/
theorem RN_callO (hspec : OSpec c.P k args [] r H') (hk : calleeOf T cl.callee = some (k, first, cap)) (ha : opvL T cl.args.toList = some es) (hargs : first ++ es ++ cap = args)
    (hon : AV.onlyL [] args = true) (hap : hapart H' H = true) (hdo : dstOk c.N (some d) = true)
    (hnext : RunM c ops hot Q l ⟨(d, r) :: T, H' ++ H, M⟩) : RunN c ops hot Q i true ⟨some d, .call cl, ty, pos, af, none⟩ l ⟨T, H, M⟩ := by
  rintro g hi hwt a w ⟨β, hs⟩
  have hH2 := hrest_nil H
  subst hargs
  simp only [Plan.step, wpMix, wpOp, hi, (hwt a w β hs).trans (wanted_none rfl _), if_true]
  refine .inl ?_
  obtain ⟨vs, hA, hrun⟩ := run_call_op (o := ⟨some d, .call cl, ty, pos, af, g⟩) hs hk ha hspec.1 rfl
  unfold Oper.wp
  rw [hrun w, Oper.upon_enter]
  have hH : HRel (Fout c.F [] β) (cut [] β) (hpick [] H) w := hs.heap.cut rfl
  have hA' : Args (Fout c.F [] β) (cut [] β) w (first ++ es ++ cap) vs := ⟨hA.1, fun i x v hx hv =>
    (hA.2 i x v hx hv).only (Nat.le_refl _) (fun k hk => .inl (off_cut.1 hk)) (fun _ _ _ => rfl) (fun b p hm hp => cut_some.2 ⟨hm, hp⟩) (AV.onlyL_get hon hx)⟩
  refine (hspec.2 (Fout c.F [] β) (cut [] β) w vs hH hA').mono ?_
  rintro e w' ⟨r', v, H'', M', β', rfl, ⟨rfl, rfl, rfl⟩, hH', hv, hkp, hst⟩
  obtain ⟨hs', hup⟩ := SatB_called hs hH' hkp (fun b p hp => hst b p hp rfl) (by rw [hH2]; exact hap)
  rw [hH2] at hs'
  refine ⟨.inr (hkp.below ?_), hnext _ _ ⟨_, hs'.put hdo (hup _ _ hv)⟩⟩
  rintro k ⟨b, p, hp, _⟩
  have := (cut_some.1 hp).1
  simp [mem] at this
theorem PSpec.o (h : PSpec c.P k args r) : OSpec c.P k args [] r [] :=
  ⟨h.1, fun F β w vs hH ha => (h.2 F β w vs hH ha).mono fun e w' ⟨r', v, H'', M', β', he, ⟨h1, h2⟩, hH', hv, hk, hst⟩ =>
    ⟨r', v, H'', [], β', he, ⟨h1, h2, rfl⟩, hH', hv, hk, fun b p hp _ => by obtain ⟨o, ho⟩ := hH.dom b p hp; cases ho⟩⟩
theorem RN_callP (hspec : PSpec c.P k args r) (hk : calleeOf T cl.callee = some (k, first, cap)) (ha : opvL T cl.args.toList = some es) (hargs : first ++ es ++ cap = args)
    (hon : AV.onlyL [] args = true) (hdo : dstOk c.N (some d) = true)
    (hnext : RunM c ops hot Q l ⟨(d, r) :: T, H, M⟩) : RunN c ops hot Q i true ⟨some d, .call cl, ty, pos, af, none⟩ l ⟨T, H, M⟩ :=
  RN_callO hspec.o hk ha hargs hon rfl hdo hnext

variable {op : Op} {j q : Nat} {b : Bool} {e : Bool}
theorem RN_on (hj : ((ops[j]?).bind (·.dst)) = some q) (hx : get T q = some (.pl (.bool b))) (h : RunN c ops hot Q i e ⟨some d, op, ty, pos, af, none⟩ l ⟨T, H, M⟩) : RunN c ops hot Q i e ⟨some d, op, ty, pos, af, some (j, b)⟩ l ⟨T, H, M⟩ :=
  RunN_on (s := ⟨T, H, M⟩) rfl hj hx h
theorem RN_split {f : Bool} (hj : ((ops[j]?).bind (·.dst)) = some q) (hx : get T q = some (.pl (.bool f))) (ht : f = true → RunN c ops hot Q i e ⟨some d, op, ty, pos, af, some (j, b)⟩ l ⟨(q, .pl (.bool true)) :: T, H, M⟩)
    (hf : f = false → RunN c ops hot Q i e ⟨some d, op, ty, pos, af, some (j, b)⟩ l ⟨(q, .pl (.bool false)) :: T, H, M⟩) : RunN c ops hot Q i e ⟨some d, op, ty, pos, af, some (j, b)⟩ l ⟨T, H, M⟩ :=
  RunN_split (s := ⟨T, H, M⟩) rfl hj hx ht hf
end
end Go.Abs
