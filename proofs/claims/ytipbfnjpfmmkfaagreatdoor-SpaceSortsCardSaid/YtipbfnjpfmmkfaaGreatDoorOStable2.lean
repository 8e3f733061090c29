/-
  THE LIBRARY'S STABLE SORT, plain: a block in order by insertion; two blocks merged. No program, no memory. Conditions: none.
-/
import Derived.Test.YtipbfnjpfmmkfaaGreatDoorOStable
set_option maxRecDepth 20000
set_option linter.unusedVariables false
set_option linter.unusedSimpArgs false
namespace G
open W
variable {cmp : TDecl → TDecl → Option Int} {lt : TDecl → TDecl → Bool}
theorem Sd_app {l m : List TDecl} : Sd lt (l ++ m) ↔ Sd lt l ∧ Sd lt m ∧ ∀ x ∈ l, ∀ y ∈ m, lt y x = false := List.pairwise_append
theorem Sd_nil : Sd lt [] := List.Pairwise.nil
theorem Sd_one (c : TDecl) : Sd lt [c] := List.pairwise_singleton _ _
theorem Sd_cons {c : TDecl} {l : List TDecl} : Sd lt (c :: l) ↔ (∀ y ∈ l, lt y c = false) ∧ Sd lt l := List.pairwise_cons
theorem Sd_mid {l m : List TDecl} {d : TDecl} (hlm : Sd lt (l ++ m)) (h1 : ∀ x ∈ l, lt d x = false) (h2 : ∀ y ∈ m, lt y d = false) : Sd lt (l ++ d :: m) := by
  obtain ⟨a, b, c⟩ := Sd_app.1 hlm;refine Sd_app.2 ⟨a, Sd_cons.2 ⟨h2, b⟩, fun x hx y hy => ?_⟩
  rcases List.mem_cons.1 hy with rfl | hy
  · exact h1 x hx
  · exact c x hx y hy
theorem irr (hc : CmpD cmp lt) (x : TDecl) : lt x x = false := by
  cases h : lt x x with
  | false => rfl
  | true => have := hc.asym x x h; rw [h] at this; exact this
theorem le_last (hc : CmpD cmp lt) {l : List TDecl} {c d : TDecl} (hs : Sd lt (l ++ [c])) (h : lt d c = false) : ∀ x ∈ l ++ [c], lt d x = false := by
  intro x hx
  rcases List.mem_append.1 hx with hx | hx
  · exact hc.nt _ _ _ h ((Sd_app.1 hs).2.2 x hx c (by simp))
  · obtain rfl := List.mem_singleton.1 hx; exact h
theorem ge_first (hc : CmpD cmp lt) {l : List TDecl} {c d : TDecl} (hs : Sd lt (c :: l)) (h : lt c d = false) : ∀ y ∈ c :: l, lt y d = false := by
  intro y hy
  rcases List.mem_cons.1 hy with rfl | hy
  · exact h
  · exact hc.nt _ _ _ ((Sd_cons.1 hs).1 y hy) h
theorem insd_in (hc : CmpD cmp lt) (a : Nat) (p q : List TDecl) (d : TDecl) (ha : a = p.length) : ∀ (n : Nat) (l1 l2 : List TDecl), l1.length = n → a + n < 2305843009213693952 → Sd lt (l1 ++ l2) → (∀ y ∈ l2, lt d y = true) →
    ∃ z, iter (slices_insertionSortCmpFunc_Decl_b2 (a : Int) cmp) (((a + n : Nat) : Int), p ++ (l1 ++ (d :: (l2 ++ q)))) = some (p ++ (z ++ q)) ∧ z.Perm (l1 ++ d :: l2) ∧ Sd lt z := by
  intro n
  induction n with
  | zero =>
    intro l1 l2 h1 hB hs hd
    obtain rfl := List.length_eq_zero_iff.1 h1;refine ⟨d :: l2, iter_inr ?_, List.Perm.refl _, Sd_cons.2 ⟨fun y hy => hc.asym _ _ (hd y hy), hs⟩⟩;unfold slices_insertionSortCmpFunc_Decl_b2
    have e : decide (((a + 0 : Nat) : Int) > (a : Int)) = false := by simp
    rw [e]; rfl
  | succ n ih =>
    intro l1 l2 h1 hB hs hd
    rcases List.eq_nil_or_concat l1 with rfl | ⟨l, c, rfl⟩
    · simp at h1
    · simp only [List.concat_eq_append, List.length_append, List.length_singleton, List.append_assoc, List.cons_append, List.nil_append] at h1 hs ⊢
      have hl : l.length = n := by omega
      have e : decide (((a + (n + 1) : Nat) : Int) > (a : Int)) = true := by simp; omega
      have hw : w64 (((a + (n + 1) : Nat) : Int) - 1) = ((a + n : Nat) : Int) := by rw [w64_dec _ (by omega) (by omega)]; rfl
      have r1 : at' (p ++ (l ++ (c :: (d :: (l2 ++ q))))) ((a + (n + 1) : Nat) : Int) = some d := at_mid (p ++ (l ++ [c])) d (l2 ++ q) (by simp) (by simp; omega)
      have r2 : at' (p ++ (l ++ (c :: (d :: (l2 ++ q))))) ((a + n : Nat) : Int) = some c := at_mid (p ++ l) c (d :: (l2 ++ q)) (by simp) (by simp; omega)
      obtain ⟨v, hv, hlt⟩ := hc.val d c
      cases hl2 : lt d c with
      | false =>
        refine ⟨l ++ (c :: (d :: l2)), iter_inr ?_, by simp, ?_⟩
        · unfold slices_insertionSortCmpFunc_Decl_b2
          rw [e, hw]
          simp only [cond_true, r1, r2, Option.bind_some, hv, hlt, hl2, cond_false]
          simp
        · have k := Sd_app.1 (show Sd lt ((l ++ [c]) ++ l2) by simpa using hs)
          have := Sd_mid (lt := lt) (l := l ++ [c]) (m := l2) (d := d) (by simpa using hs) (le_last hc k.1 hl2) (fun y hy => hc.asym _ _ (hd y hy))
          simpa using this
      | true =>
        obtain ⟨z, k1, k2, k3⟩ := ih l (c :: l2) hl (by omega) (by simpa using hs) (fun y hy => by
          rcases List.mem_cons.1 hy with rfl | hy
          · exact hl2
          · exact hd y hy)
        refine ⟨z, ?_, k2.trans (List.Perm.append_left l (List.Perm.swap c d l2)), k3⟩
        simp only [List.cons_append] at k1
        rw [← k1]
        refine iter_inl ?_;unfold slices_insertionSortCmpFunc_Decl_b2
        rw [e, hw]
        simp only [cond_true, r1, Option.bind_some]
        rw [r2]
        simp only [Option.bind_some, hv, hlt, hl2, cond_true]
        have sw := swp' (ρ := (Int × List TDecl) ⊕ List TDecl) (p ++ l) [] (l2 ++ q) c d (L := p ++ (l ++ (c :: (d :: (l2 ++ q))))) (i := a + n) (j := a + (n + 1)) (by simp) (by simp; omega) (by simp; omega) (fun v12 => some (.inl (((a + n : Nat) : Int), v12)))
        rw [r2, r1] at sw
        simp only [Option.bind_some] at sw
        rw [sw]; simp
theorem insd_out (hc : CmpD cmp lt) (a b : Nat) (p q : List TDecl) (ha : a = p.length) : ∀ (y z : List TDecl), 0 < z.length → b = a + z.length + y.length → b < 2305843009213693952 → Sd lt z →
    ∃ z', iter (slices_insertionSortCmpFunc_Decl_b1 (a : Int) (b : Int) cmp) (((a + z.length : Nat) : Int), p ++ (z ++ (y ++ q))) = some (p ++ (z' ++ q)) ∧ z'.Perm (z ++ y) ∧ Sd lt z' := by
  intro y
  induction y with
  | nil =>
    intro z hz hb hB hs
    refine ⟨z, iter_inr ?_, by simp, hs⟩;unfold slices_insertionSortCmpFunc_Decl_b1
    have e : decide (((a + z.length : Nat) : Int) < (b : Int)) = false := by simp at hb ⊢; omega
    rw [e]; rfl
  | cons d y ih =>
    intro z hz hb hB hs
    simp only [List.length_cons] at hb
    obtain ⟨z1, k1, k2, k3⟩ := insd_in hc a p (y ++ q) d ha z.length z [] rfl (by omega) (by simpa using hs) (by simp)
    have hlen : z1.length = z.length + 1 := by have := k2.length_eq; simpa using this
    obtain ⟨z2, m1, m2, m3⟩ := ih z1 (by omega) (by omega) hB k3;refine ⟨z2, ?_, m2.trans ?_, m3⟩
    · rw [← m1]
      refine iter_inl ?_;unfold slices_insertionSortCmpFunc_Decl_b1
      have e : decide (((a + z.length : Nat) : Int) < (b : Int)) = true := by simp; omega
      simp only [List.nil_append] at k1
      rw [e]
      simp only [cond_true, List.cons_append]
      rw [k1]
      simp only [Option.bind_some]
      rw [w64_inc _ (by omega), hlen]
      simp [Nat.add_assoc]
    · have := k2.append_right y
      simpa using this
theorem insd (hc : CmpD cmp lt) (p x q : List TDecl) (a b : Nat) (ha : a = p.length) (hb : b = a + x.length) (hB : b + 1 < 2305843009213693952) :
    ∃ z, slices_insertionSortCmpFunc_Decl (p ++ (x ++ q)) (a : Int) (b : Int) cmp = some (p ++ (z ++ q)) ∧ z.Perm x ∧ Sd lt z := by
  unfold slices_insertionSortCmpFunc_Decl
  rw [w64_inc _ (by omega)]
  cases x with
  | nil =>
    refine ⟨[], ?_, List.Perm.refl _, Sd_nil⟩
    rw [iter_inr (q := p ++ ([] ++ q)) ?_]
    · rfl
    · unfold slices_insertionSortCmpFunc_Decl_b1
      have e : decide (((a + 1 : Nat) : Int) < (b : Int)) = false := by simp at hb ⊢; omega
      rw [e]; rfl
  | cons c y =>
    obtain ⟨z, k1, k2, k3⟩ := insd_out hc a b p q ha y [c] (by simp) (by simp at hb ⊢; omega) (by omega) (Sd_one c);refine ⟨z, ?_, k2, k3⟩
    simp only [List.length_singleton, List.cons_append, List.nil_append] at k1 ⊢
    rw [k1]; rfl
end G
