/-
  THE LIBRARY'S STABLE SORT, plain: it answers the elements in order. No program, no memory. Conditions: none.
-/
import Derived.Test.YtipbfnjpfmmkfaaGreatDoorOStable4
set_option maxRecDepth 20000
set_option linter.unusedVariables false
set_option linter.unusedSimpArgs false
namespace G
open W
variable {cmp : TDecl → TDecl → Option Int} {lt : TDecl → TDecl → Bool}
theorem symT_le {f g : Mrg} (h : ∀ D a m b c, Le (f D a m b c) (g D a m b c)) (D mid e b) : Le (symT f cmp D mid e b) (symT g cmp D mid e b) := by
  unfold symT
  repeat' first | with_reducible refine Le.bif _ ?_ ?_ | apply h | with_reducible refine Le.bind ?_ ?_ | with_reducible exact Le.refl _ | intro _
theorem symU_le {f g : Mrg} (h : ∀ D a m b c, Le (f D a m b c) (g D a m b c)) (D a s mid e b) : Le (symU f cmp D a s mid e b) (symU g cmp D a s mid e b) := by
  unfold symU
  repeat' first | with_reducible exact Le.refl _ | apply symT_le h | apply h | with_reducible refine Le.bif _ ?_ ?_ | with_reducible refine Le.bind ?_ ?_ | intro _
theorem symK_le {f g : Mrg} (h : ∀ D a m b c, Le (f D a m b c) (g D a m b c)) (D a m b q) : Le (symK f cmp D a m b q) (symK g cmp D a m b q) := by
  unfold symK
  repeat' first | with_reducible exact Le.refl _ | apply symU_le h | with_reducible refine Le.bif _ ?_ ?_ | with_reducible refine Le.bind ?_ ?_ | intro _
theorem symF_le {f g : Mrg} (h : ∀ D a m b c, Le (f D a m b c) (g D a m b c)) (D a m b c) : Le (slices_symMergeCmpFunc_Decl_F f D a m b c) (slices_symMergeCmpFunc_Decl_F g D a m b c) := by
  rw [symF_eq, symF_eq]
  repeat' first | with_reducible exact Le.refl _ | apply symK_le h | with_reducible refine Le.bif _ ?_ ?_ | with_reducible refine Le.bind ?_ ?_ | intro _
theorem symN_le : ∀ n D a m b c, Le (slices_symMergeCmpFunc_Decl_n n D a m b c) (slices_symMergeCmpFunc_Decl_n (n + 1) D a m b c)
  | 0, D, a, m, b, c => fun r hr => by cases hr
  | n + 1, D, a, m, b, c => symF_le (symN_le n) D a m b c
theorem symN_more (n k : Nat) (D a m b c) : Le (slices_symMergeCmpFunc_Decl_n n D a m b c) (slices_symMergeCmpFunc_Decl_n (n + k) D a m b c) := by
  induction k with
  | zero => exact Le.refl _
  | succ k ih => exact fun r hr => symN_le (n + k) D a m b c r (ih r hr)
theorem sym_all (hc : CmpD cmp lt) (N : Nat) : MergesTo lt slices_symMergeCmpFunc_Decl cmp N := by
  intro x y p q a m b hN h1 h2 ha hm hb hB hx hy
  obtain ⟨z, k1, k2, k3⟩ := sym hc N x y p q a m b hN h1 h2 ha hm hb hB hx hy;refine ⟨z, ?_, k2, k3⟩;unfold slices_symMergeCmpFunc_Decl;refine lim_of (fun n q' h => ?_) k1
  have e1 := symN_more n N _ _ _ _ _ _ h
  have e2 := symN_more N n _ _ _ _ _ _ k1
  rw [Nat.add_comm] at e2
  rw [e1] at e2
  exact (Option.some.inj e2)
inductive Blk (lt : TDecl → TDecl → Bool) (bs : Nat) : List TDecl → Prop
  | last {l : List TDecl} : l.length ≤ bs → Sd lt l → Blk lt bs l
  | cons {x l : List TDecl} : x.length = bs → Sd lt x → Blk lt bs l → Blk lt bs (x ++ l)
theorem Blk.take {bs : Nat} {l : List TDecl} (h : Blk lt bs l) (hl : bs ≤ l.length) : ∃ x r, l = x ++ r ∧ x.length = bs ∧ Sd lt x ∧ Blk lt bs r := by
  cases h with
  | last h1 h2 => exact ⟨l, [], by simp, by omega, h2, .last (by simp) Sd_nil⟩
  | cons h1 h2 h3 => exact ⟨_, _, rfl, h1, h2, h3⟩
theorem Blk.short {bs : Nat} {l : List TDecl} (h : Blk lt bs l) (hl : l.length ≤ bs) : Sd lt l := by
  induction h with
  | last h1 h2 => exact h2
  | @cons x r h1 h2 h3 ih =>
    simp only [List.length_append] at hl
    obtain rfl : r = [] := List.length_eq_zero_iff.1 (by omega)
    simpa using h2
theorem blocks (hc : CmpD cmp lt) (n : Nat) : ∀ (k : Nat) (p r : List TDecl) (a : Nat), r.length ≤ k → a = p.length → n = a + r.length → n < 2305843009213693 →
    ∃ r', ((iter (slices_stableCmpFunc_Decl_b1 (n : Int) cmp) ((a : Int), (((a + 20 : Nat) : Int), p ++ r))).bind fun (q4 : Int × (List TDecl)) => (slices_insertionSortCmpFunc_Decl q4.2 q4.1 (n : Int) cmp).bind fun v5 => (eqn v5.length q4.2.length).bind fun _ => some v5) = some (p ++ r') ∧ r'.Perm r ∧ Blk lt 20 r' := by
  intro k
  induction k with
  | zero =>
    intro p r a hk ha hn hB
    obtain rfl := List.length_eq_zero_iff.1 (Nat.le_zero.1 hk)
    simp only [List.length_nil, Nat.add_zero] at hn
    refine ⟨[], ?_, List.Perm.refl _, .last (by simp) Sd_nil⟩
    rw [iter_inr (q := ((a : Int), p ++ [])) (by
      unfold slices_stableCmpFunc_Decl_b1
      have e : decide (((a + 20 : Nat) : Int) ≤ (n : Int)) = false := by simp; omega
      simp only [e, cond_false])]
    obtain ⟨z, k1, k2, k3⟩ := insd hc p [] [] a n ha (by simpa using hn) (by omega)
    have hz : z = [] := List.Perm.eq_nil k2
    subst hz
    simp only [List.append_nil] at k1
    simp only [Option.bind_some, List.append_nil, k1]
    rw [eqn_of rfl]; rfl
  | succ k ih =>
    intro p r a hk ha hn hB
    by_cases h : 20 ≤ r.length
    · obtain ⟨x, r1, rfl, hx⟩ := split_at r 20 h
      simp only [List.length_append] at hk hn
      obtain ⟨z, k1, k2, k3⟩ := insd hc p x r1 a (a + 20) ha (by omega) (by omega)
      have hz := k2.length_eq
      obtain ⟨r2, m1, m2, m3⟩ := ih (p ++ z) r1 (a + 20) (by omega) (by simp; omega) (by omega) hB;refine ⟨z ++ r2, ?_, (k2.append m2), .cons (by omega) k3 m3⟩
      simp only [List.append_assoc] at m1
      rw [← m1]
      congr 1
      refine iter_inl ?_;unfold slices_stableCmpFunc_Decl_b1
      have e : decide (((a + 20 : Nat) : Int) ≤ (n : Int)) = true := by simp; omega
      simp only [e, cond_true, k1, Option.bind_some]
      rw [eqn_of (by simp; omega)]
      simp only [Option.bind_some]
      rw [show ((a + 20 : Nat) : Int) + 20 = ((a + 20 : Nat) : Int) + ((20 : Nat) : Int) from rfl, w64_add _ 20 (by omega)]
    · obtain ⟨z, k1, k2, k3⟩ := insd hc p r [] a n ha hn (by omega);refine ⟨z, ?_, k2, .last (by have := k2.length_eq; omega) k3⟩
      rw [iter_inr (q := ((a : Int), p ++ r)) (by
        unfold slices_stableCmpFunc_Decl_b1
        have e : decide (((a + 20 : Nat) : Int) ≤ (n : Int)) = false := by simp; omega
        simp only [e, cond_false])]
      simp only [List.append_nil] at k1
      have hz := k2.length_eq
      simp only [Option.bind_some, k1]
      rw [eqn_of (by simp; omega)]; rfl
theorem round (hc : CmpD cmp lt) (n bs : Nat) (hbs : 0 < bs) (hB : n + bs < 2305843009213693) (dd : List TDecl) : ∀ (k : Nat) (p r : List TDecl) (a : Nat), r.length ≤ k → a = p.length → n = a + r.length → Blk lt bs r →
    ∃ r', ((iter (slices_stableCmpFunc_Decl_b3 (n : Int) cmp ((bs : Int), dd)) ((a : Int), (((a + 2 * bs : Nat) : Int), p ++ r))).bind fun (q10 : Int × (List TDecl)) => (bif (decide ((w64 (q10.1 + (bs : Int))) < (n : Int))) then (slices_symMergeCmpFunc_Decl q10.2 q10.1 (w64 (q10.1 + (bs : Int))) (n : Int) cmp).bind fun v11 => (eqn v11.length q10.2.length).bind fun _ => some (Sum.inl ((w64 ((bs : Int) * 2)), v11)) else some (Sum.inl ((w64 ((bs : Int) * 2)), q10.2)))) = some ((Sum.inl (((2 * bs : Nat) : Int), p ++ r')) : (Int × List TDecl) ⊕ (List TDecl)) ∧ r'.Perm r ∧ Blk lt (2 * bs) r' := by
  have hw2 : w64 ((bs : Int) * 2) = ((2 * bs : Nat) : Int) := by rw [w64_of (by omega)]; omega
  have hw3 : w64 (2 * (bs : Int)) = ((2 * bs : Nat) : Int) := by rw [w64_of (by omega)]; omega
  intro k
  induction k with
  | zero =>
    intro p r a hk ha hn hb
    obtain rfl := List.length_eq_zero_iff.1 (Nat.le_zero.1 hk)
    simp only [List.length_nil, Nat.add_zero] at hn
    refine ⟨[], ?_, List.Perm.refl _, .last (by simp) Sd_nil⟩
    rw [iter_inr (q := ((a : Int), p ++ [])) (by
      unfold slices_stableCmpFunc_Decl_b3
      have e : decide (((a + 2 * bs : Nat) : Int) ≤ (n : Int)) = false := by simp; omega
      simp only [e, cond_false])]
    simp only [Option.bind_some]
    rw [w64_add a bs (by omega)]
    have e : decide (((a + bs : Nat) : Int) < (n : Int)) = false := by simp; omega
    rw [e, hw2]; rfl
  | succ k ih =>
    intro p r a hk ha hn hb
    by_cases h : 2 * bs ≤ r.length
    · obtain ⟨x, r1, rfl, hx, hxs, hb1⟩ := hb.take (by omega)
      simp only [List.length_append] at h hk hn
      obtain ⟨y, r2, rfl, hy, hys, hb2⟩ := hb1.take (by omega)
      simp only [List.length_append] at h hk hn
      obtain ⟨z, k1, k2, k3⟩ := sym_all hc (2 * bs) x y p r2 a (a + bs) (a + 2 * bs) (by omega) (by omega) (by omega) ha (by omega) (by omega) (by omega) hxs hys
      have hz := k2.length_eq
      simp only [List.length_append] at hz
      obtain ⟨r3, m1, m2, m3⟩ := ih (p ++ z) r2 (a + 2 * bs) (by omega) (by simp; omega) (by omega) hb2;refine ⟨z ++ r3, ?_, ?_, .cons (by omega) k3 m3⟩
      · simp only [List.append_assoc] at m1
        rw [← m1]
        congr 1
        refine iter_inl ?_;unfold slices_stableCmpFunc_Decl_b3
        have e : decide (((a + 2 * bs : Nat) : Int) ≤ (n : Int)) = true := by simp; omega
        simp only [e, cond_true]
        rw [w64_add a bs (by omega), k1]
        simp only [Option.bind_some]
        rw [eqn_of (by simp; omega)]
        simp only [Option.bind_some]
        rw [hw3, w64_add _ (2 * bs) (by omega)]
      · have := k2.append m2
        simpa using this
    · have hi : iter (slices_stableCmpFunc_Decl_b3 (n : Int) cmp ((bs : Int), dd)) ((a : Int), (((a + 2 * bs : Nat) : Int), p ++ r)) = some ((a : Int), p ++ r) := iter_inr (by
        unfold slices_stableCmpFunc_Decl_b3
        have e : decide (((a + 2 * bs : Nat) : Int) ≤ (n : Int)) = false := by simp; omega
        simp only [e, cond_false])
      rw [hi]
      simp only [Option.bind_some]
      rw [w64_add a bs (by omega)]
      by_cases h2 : a + bs < n
      · have e : decide (((a + bs : Nat) : Int) < (n : Int)) = true := by simp; omega
        rw [e]
        obtain ⟨x, y, rfl, hx, hxs, hb1⟩ := hb.take (by omega)
        simp only [List.length_append] at h hk hn
        have hys := hb1.short (by omega)
        obtain ⟨z, k1, k2, k3⟩ := sym_all hc (x.length + y.length) x y p [] a (a + bs) n (by omega) (by omega) (by omega) ha (by omega) (by omega) (by omega) hxs hys
        simp only [List.append_nil] at k1
        have hz := k2.length_eq
        simp only [List.length_append] at hz
        refine ⟨z, ?_, k2, .last (by omega) k3⟩
        simp only [cond_true, k1, Option.bind_some]
        rw [eqn_of (by simp; omega), hw2]; rfl
      · have e : decide (((a + bs : Nat) : Int) < (n : Int)) = false := by simp; omega
        rw [e, hw2]
        exact ⟨r, rfl, List.Perm.refl _, .last (by omega) (hb.short (by omega))⟩
theorem rounds (hc : CmpD cmp lt) (n : Nat) (hB : n < 576460752303423) : ∀ (k : Nat) (l : List TDecl) (bs : Nat), n ≤ bs + k → 0 < bs → bs ≤ 2 * n + 40 → l.length = n → Blk lt bs l →
    ∃ l', iter (slices_stableCmpFunc_Decl_b2 (n : Int) cmp) ((bs : Int), l) = some l' ∧ l'.Perm l ∧ Sd lt l' := by
  intro k
  induction k with
  | zero =>
    intro l bs h1 h2 h3 hl hb
    refine ⟨l, iter_inr ?_, List.Perm.refl _, hb.short (by omega)⟩;unfold slices_stableCmpFunc_Decl_b2
    have e : decide ((bs : Int) < (n : Int)) = false := by simp; omega
    rw [e]; rfl
  | succ k ih =>
    intro l bs h1 h2 h3 hl hb
    by_cases h : bs < n
    · obtain ⟨r, k1, k2, k3⟩ := round hc n bs h2 (by omega) l l.length [] l 0 (Nat.le_refl _) rfl (by omega) hb;obtain ⟨l', m1, m2, m3⟩ := ih r (2 * bs) (by omega) (by omega) (by omega) (by rw [k2.length_eq]; exact hl) k3;refine ⟨l', ?_, m2.trans k2, m3⟩
      rw [← m1]
      refine iter_inl ?_;unfold slices_stableCmpFunc_Decl_b2
      have e : decide ((bs : Int) < (n : Int)) = true := by simp; omega
      have hw3 : w64 (2 * (bs : Int)) = ((2 * bs : Nat) : Int) := by rw [w64_of (by omega)]; omega
      simp only [e, cond_true, hw3]
      simp only [Nat.zero_add, List.nil_append, Int.ofNat_zero] at k1
      exact k1
    · refine ⟨l, iter_inr ?_, List.Perm.refl _, hb.short (by omega)⟩;unfold slices_stableCmpFunc_Decl_b2
      have e : decide ((bs : Int) < (n : Int)) = false := by simp; omega
      rw [e]; rfl
theorem stable_ok (hc : CmpD cmp lt) (l : List TDecl) (hB : l.length < 576460752303423) : ∃ l', slices_SortStableFunc_Decl l cmp = some l' ∧ l'.Perm l ∧ Sd lt l' := by
  obtain ⟨r, k1, k2, k3⟩ := blocks hc l.length l.length [] l 0 (Nat.le_refl _) rfl (by omega) (by omega);obtain ⟨l', m1, m2, m3⟩ := rounds hc l.length hB l.length r 20 (by omega) (by omega) (by omega) k2.length_eq k3;refine ⟨l', ?_, m2.trans k2, m3⟩
  have hl := (m2.trans k2).length_eq
  have e : slices_stableCmpFunc_Decl l (l.length : Int) cmp = some l' := by
    unfold slices_stableCmpFunc_Decl
    simp only [Nat.zero_add, List.nil_append] at k1
    cases hi : iter (slices_stableCmpFunc_Decl_b1 (l.length : Int) cmp) (0, 20, l) with
    | none =>
      have k1' : ((iter (slices_stableCmpFunc_Decl_b1 (l.length : Int) cmp) (0, 20, l)).bind fun (q4 : Int × (List TDecl)) => (slices_insertionSortCmpFunc_Decl q4.2 q4.1 (l.length : Int) cmp).bind fun v5 => (eqn v5.length q4.2.length).bind fun _ => some v5) = some r := k1
      rw [hi] at k1'; cases k1'
    | some q4 =>
      have k1' : ((iter (slices_stableCmpFunc_Decl_b1 (l.length : Int) cmp) (0, 20, l)).bind fun (q4 : Int × (List TDecl)) => (slices_insertionSortCmpFunc_Decl q4.2 q4.1 (l.length : Int) cmp).bind fun v5 => (eqn v5.length q4.2.length).bind fun _ => some v5) = some r := k1
      rw [hi] at k1'
      simp only [Option.bind_some] at k1' ⊢
      cases h5 : slices_insertionSortCmpFunc_Decl q4.2 q4.1 (l.length : Int) cmp with
      | none => rw [h5] at k1'; cases k1'
      | some v5 =>
        rw [h5] at k1'
        simp only [Option.bind_some] at k1' ⊢
        cases h6 : eqn v5.length q4.2.length with
        | none => rw [h6] at k1'; cases k1'
        | some u =>
          rw [h6] at k1'
          simp only [Option.bind_some] at k1' ⊢
          cases k1'
          have m1' : iter (slices_stableCmpFunc_Decl_b2 (l.length : Int) cmp) (20, r) = some l' := m1
          rw [m1']; rfl
  unfold slices_SortStableFunc_Decl
  rw [e]
  simp only [Option.bind_some]
  rw [eqn_of hl]; rfl
end G
