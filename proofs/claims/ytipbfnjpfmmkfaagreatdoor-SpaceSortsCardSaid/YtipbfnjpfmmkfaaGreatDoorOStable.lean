/-
  THE LIBRARY'S STABLE SORT, plain: blocks in order by insertion, then merged by turns: the answer is in order, and the same elements. No program, no memory. Conditions: none.
-/
import Derived.Test.YtipbfnjpfmmkfaaGreatDoorOPure
import Derived.Test.YtipbfnjpfmmkfaaGreatDoorAbsM4
import Derived.WalkKit
set_option maxRecDepth 20000
set_option linter.unusedVariables false
set_option linter.unusedSimpArgs false
namespace G
open W
structure CmpD (cmp : TDecl → TDecl → Option Int) (lt : TDecl → TDecl → Bool) : Prop where
  val : ∀ x y, ∃ n, cmp x y = some n ∧ decide (n < 0) = lt x y
  asym : ∀ x y, lt x y = true → lt y x = false
  nt : ∀ x y z, lt x y = false → lt y z = false → lt x z = false
def Sd (lt : TDecl → TDecl → Bool) (l : List TDecl) : Prop := l.Pairwise fun x y => lt y x = false
theorem at_mid {α : Type} {L : List α} (p : List α) (c : α) (r : List α) {i : Nat} (hL : L = p ++ c :: r) (h : i = p.length) : at' L (i : Int) = some c := by
  subst h hL; rw [at'_nat]; simp
theorem put_mid {α : Type} {L : List α} (p : List α) (c : α) (r : List α) {i : Nat} (d : α) (hL : L = p ++ c :: r) (h : i = p.length) : put L (i : Int) d = some (p ++ d :: r) := by
  subst h hL; rw [put_of (by simp)]; simp
theorem swp {α ρ : Type} {L : List α} (p s q : List α) (c d : α) {i j : Nat} (hL : L = p ++ c :: (s ++ d :: q)) (hi : i = p.length) (hj : j = p.length + 1 + s.length) (k : List α → Option ρ) :
    ((at' L (j : Int)).bind fun v2 => (at' L (i : Int)).bind fun v3 => (at' L (i : Int)).bind fun v4 => (put L (i : Int) v2).bind fun v5 => (at' v5 (j : Int)).bind fun v6 => (put v5 (j : Int) v3).bind k) = k (p ++ d :: (s ++ c :: q)) := by
  rw [at_mid p c _ hL hi, at_mid (p ++ c :: s) d q (by rw [hL]; simp) (by simp; omega)]
  simp only [Option.bind_some]
  rw [put_mid p c _ d hL hi]
  simp only [Option.bind_some]
  rw [at_mid (p ++ d :: s) d q (by simp) (by simp; omega)]
  simp only [Option.bind_some]
  rw [put_mid (p ++ d :: s) d q c (by simp) (by simp; omega)]
  simp only [Option.bind_some, List.append_assoc, List.cons_append]
theorem swp' {α ρ : Type} {L : List α} (p s q : List α) (c d : α) {i j : Nat} (hL : L = p ++ c :: (s ++ d :: q)) (hi : i = p.length) (hj : j = p.length + 1 + s.length) (k : List α → Option ρ) :
    ((at' L (i : Int)).bind fun v2 => (at' L (j : Int)).bind fun v3 => (at' L (j : Int)).bind fun v4 => (put L (j : Int) v2).bind fun v5 => (at' v5 (i : Int)).bind fun v6 => (put v5 (i : Int) v3).bind k) = k (p ++ d :: (s ++ c :: q)) := by
  rw [at_mid p c _ hL hi, at_mid (p ++ c :: s) d q (by rw [hL]; simp) (by simp; omega)]
  simp only [Option.bind_some]
  rw [put_mid (p ++ c :: s) d q c (by rw [hL]; simp) (by simp; omega)]
  simp only [Option.bind_some]
  rw [at_mid p c (s ++ c :: q) (by simp) hi]
  simp only [Option.bind_some]
  rw [put_mid p c (s ++ c :: q) d (by simp) hi]
  simp only [Option.bind_some, List.append_assoc, List.cons_append]
theorem w64_nn (n : Nat) (h : n < 4611686018427387904) : w64 (n : Int) = (n : Int) := w64_of (by omega)
theorem w64_add (a b : Nat) (h : a + b < 4611686018427387904) : w64 ((a : Int) + (b : Int)) = ((a + b : Nat) : Int) := by rw [w64_of (by omega)]; omega
theorem w64_dif (a b : Nat) (h : b ≤ a) (h2 : a < 4611686018427387904) : w64 ((a : Int) - (b : Int)) = ((a - b : Nat) : Int) := by rw [w64_of (by omega)]; omega
theorem w64_inc (a : Nat) (h : a < 4611686018427387904) : w64 ((a : Int) + 1) = ((a + 1 : Nat) : Int) := by rw [w64_of (by omega)]; omega
theorem w64_dec (a : Nat) (h : 0 < a) (h2 : a < 4611686018427387904) : w64 ((a : Int) - 1) = ((a - 1 : Nat) : Int) := by rw [w64_of (by omega)]; omega
theorem half (i j : Nat) (h : i + j < 4611686018427387904) : w64 ((v64 (w64 ((i : Int) + (j : Int)))).fdiv (2 ^ 1)) = (((i + j) / 2 : Nat) : Int) := by
  rw [w64_add i j h]
  have h1 : v64 ((i + j : Nat) : Int) = ((i + j : Nat) : Int) := by
    have e1 : (2 ^ 64 : Int) = 18446744073709551616 := by decide
    unfold v64 wr
    simp only [Bool.false_and, e1]
    rw [if_neg (by simp)]; omega
  rw [h1, show ((2 : Int) ^ 1) = ((2 : Nat) : Int) from rfl]
  have h2 : (((i + j : Nat) : Int)).fdiv ((2 : Nat) : Int) = (((i + j) / 2 : Nat) : Int) := by
    rw [Int.fdiv_eq_ediv_of_nonneg _ (by omega)]; omega
  rw [h2, w64_nn _ (by omega)]
theorem swr_loop (a b n : Nat) (p s q : List TDecl) : ∀ (x2 y2 x1 y1 : List TDecl), x2.length = y2.length → x1.length = y1.length → n = x1.length + x2.length → a = p.length → b = p.length + n + s.length → b + n < 4611686018427387904 →
    iter (slices_swapRangeCmpFunc_Decl_b1 (a : Int) (b : Int) (n : Int)) ((y1.length : Int), p ++ (y1 ++ (x2 ++ (s ++ (x1 ++ (y2 ++ q)))))) = some (p ++ (y1 ++ (y2 ++ (s ++ (x1 ++ (x2 ++ q)))))) := by
  intro x2
  induction x2 with
  | nil =>
    intro y2 x1 y1 h1 h2 hn ha hb hB
    obtain rfl : y2 = [] := List.length_eq_zero_iff.1 h1.symm;refine iter_inr ?_;unfold slices_swapRangeCmpFunc_Decl_b1
    have hd : decide ((y1.length : Int) < (n : Int)) = false := by simp at hn ⊢; omega
    rw [hd]; simp
  | cons c x2 ih =>
    intro y2 x1 y1 h1 h2 hn ha hb hB
    cases y2 with
    | nil => cases h1
    | cons d y2 =>
      simp only [List.length_cons] at h1 hn
      have := ih y2 (x1 ++ [c]) (y1 ++ [d]) (by omega) (by simp; omega) (by simp; omega) ha hb hB
      simp only [List.append_assoc, List.cons_append, List.nil_append] at this ⊢
      rw [← this]
      refine iter_inl ?_;unfold slices_swapRangeCmpFunc_Decl_b1
      have hd : decide ((y1.length : Int) < (n : Int)) = true := by simp; omega
      simp only [hd, cond_true]
      rw [w64_add b y1.length (by omega), w64_add a y1.length (by omega), swp (p ++ y1) (x2 ++ (s ++ x1)) (y2 ++ q) c d (by simp) (by simp; omega) (by simp; omega), w64_inc _ (by omega)]
      simp
theorem swr (cmp : TDecl → TDecl → Option Int) (p x s y q : List TDecl) (a b n : Nat) (h1 : n = x.length) (h2 : n = y.length) (ha : a = p.length) (hb : b = p.length + n + s.length) (hB : b + n < 4611686018427387904) :
    slices_swapRangeCmpFunc_Decl (p ++ (x ++ (s ++ (y ++ q)))) (a : Int) (b : Int) (n : Int) cmp = some (p ++ (y ++ (s ++ (x ++ q)))) := by
  unfold slices_swapRangeCmpFunc_Decl
  have := swr_loop a b n p s q x y [] [] (by omega) rfl (by simpa using h1) ha hb hB
  simp only [List.nil_append, List.length_nil] at this
  rw [show (0 : Int) = ((0 : Nat) : Int) from rfl, this]; rfl
theorem rot_loop (cmp : TDecl → TDecl → Option Int) (m : Nat) : ∀ (N : Nat) (X Y pre post : List TDecl), X.length + Y.length ≤ N → 0 < X.length → 0 < Y.length → m = pre.length + X.length → m + Y.length < 2305843009213693952 →
    ∃ (k : Nat) (D : List TDecl), iter (slices_rotateCmpFunc_Decl_b1 (m : Int) cmp) ((X.length : Int), (Y.length : Int), pre ++ (X ++ (Y ++ post))) = some ((k : Int), D) ∧ D.length = pre.length + X.length + Y.length + post.length ∧ slices_swapRangeCmpFunc_Decl D (w64 ((m : Int) - (k : Int))) (m : Int) (k : Int) cmp = some (pre ++ (Y ++ (X ++ post))) := by
  intro N
  induction N with
  | zero => intro X Y pre post h h1; omega
  | succ N ih =>
    intro X Y pre post hN hX hY hm hB
    by_cases he : X.length = Y.length
    · refine ⟨X.length, pre ++ (X ++ (Y ++ post)), iter_inr ?_, ?_, ?_⟩
      · unfold slices_rotateCmpFunc_Decl_b1
        have hd : ((X.length : Int) != (Y.length : Int)) = false := by simp; omega
        simp only [hd, cond_false]
      · simp; omega
      · rw [w64_dif m X.length (by omega) (by omega)]
        exact swr cmp pre X [] Y post _ _ _ rfl he (by omega) (by simp; omega) (by omega)
    · have hne : ((X.length : Int) != (Y.length : Int)) = true := by simp; omega
      by_cases hg : X.length > Y.length
      · obtain ⟨X1, X2, rfl, h1⟩ : ∃ X1 X2 : List TDecl, X = X1 ++ X2 ∧ X1.length = Y.length := ⟨X.take Y.length, X.drop Y.length, (List.take_append_drop _ _).symm, by simp; omega⟩
        simp only [List.length_append] at *
        obtain ⟨k, D, e1, e2, e3⟩ := ih X2 X1 (pre ++ Y) post (by omega) (by omega) (by omega) (by simp; omega) (by omega);refine ⟨k, D, ?_, by simp at e2; omega, by simpa using e3⟩
        rw [← e1]
        refine iter_inl ?_;unfold slices_rotateCmpFunc_Decl_b1
        have hd : decide (((X1.length + X2.length : Nat) : Int) > (Y.length : Int)) = true := by simp; omega
        simp only [hne, hd, cond_true]
        have sw := swr cmp pre X1 X2 Y post (m - (X1.length + X2.length)) m Y.length h1.symm rfl (by omega) (by omega) (by omega)
        rw [w64_dif m (X1.length + X2.length) (by omega) (by omega)]
        simp only [List.append_assoc] at sw ⊢
        rw [sw]
        simp only [Option.bind_some]
        rw [eqn_of (by simp; omega)]
        simp only [Option.bind_some]
        rw [w64_dif (X1.length + X2.length) Y.length (by omega) (by omega), show X1.length + X2.length - Y.length = X2.length by omega, h1]
      · obtain ⟨Y1, Y2, rfl, h1⟩ : ∃ Y1 Y2 : List TDecl, Y = Y1 ++ Y2 ∧ Y2.length = X.length := ⟨Y.take (Y.length - X.length), Y.drop (Y.length - X.length), (List.take_append_drop _ _).symm, by simp; omega⟩
        simp only [List.length_append] at *
        obtain ⟨k, D, e1, e2, e3⟩ := ih Y2 Y1 pre (X ++ post) (by omega) (by omega) (by omega) (by omega) (by omega);refine ⟨k, D, ?_, by simp at e2; omega, by simpa using e3⟩
        rw [← e1]
        refine iter_inl ?_;unfold slices_rotateCmpFunc_Decl_b1
        have hd : decide ((X.length : Int) > ((Y1.length + Y2.length : Nat) : Int)) = false := by simp; omega
        simp only [hne, hd, cond_true, cond_false]
        have sw := swr cmp pre X Y1 Y2 post (m - X.length) (m + (Y1.length + Y2.length) - X.length) X.length rfl h1.symm (by omega) (by omega) (by omega)
        rw [w64_dif m X.length (by omega) (by omega), w64_add m (Y1.length + Y2.length) (by omega), w64_dif (m + (Y1.length + Y2.length)) X.length (by omega) (by omega)]
        simp only [List.append_assoc] at sw ⊢
        rw [sw]
        simp only [Option.bind_some]
        rw [eqn_of (by simp; omega)]
        simp only [Option.bind_some]
        rw [w64_dif (Y1.length + Y2.length) X.length (by omega) (by omega), show Y1.length + Y2.length - X.length = Y1.length by omega, h1]
theorem rot (cmp : TDecl → TDecl → Option Int) (p x y q : List TDecl) (a m b : Nat) (hx : 0 < x.length) (hy : 0 < y.length) (ha : a = p.length) (hm : m = a + x.length) (hb : b = m + y.length) (hB : b < 2305843009213693952) :
    slices_rotateCmpFunc_Decl (p ++ (x ++ (y ++ q))) (a : Int) (m : Int) (b : Int) cmp = some (p ++ (y ++ (x ++ q))) := by
  unfold slices_rotateCmpFunc_Decl;obtain ⟨k, D, e1, e2, e3⟩ := rot_loop cmp m (x.length + y.length) x y p q (Nat.le_refl _) hx hy (by omega) (by omega)
  rw [w64_dif m a (by omega) (by omega), w64_dif b m (by omega) (by omega), show m - a = x.length by omega, show b - m = y.length by omega, e1]
  simp only [Option.bind_some, e3]
  rw [eqn_of (by simp; omega)]; rfl
theorem bs_loop {ρ : Type} (f : Int × Int → Option ((Int × Int) ⊕ ρ)) (P : Nat → Bool) (out : Nat → ρ) (lo hi : Nat)
    (hs : ∀ i j : Nat, lo ≤ i → i < j → j ≤ hi → f ((i : Int), (j : Int)) = some (.inl (bif P ((i + j) / 2) then ((((i + j) / 2 + 1 : Nat) : Int), (j : Int)) else ((i : Int), (((i + j) / 2 : Nat) : Int)))))
    (he : ∀ i : Nat, lo ≤ i → i ≤ hi → f ((i : Int), (i : Int)) = some (.inr (out i))) : ∀ (n i j : Nat), j - i ≤ n → lo ≤ i → i ≤ j → j ≤ hi → (lo < i → P (i - 1) = true) → (j < hi → P j = false) →
      ∃ s, iter f ((i : Int), (j : Int)) = some (out s) ∧ lo ≤ s ∧ s ≤ hi ∧ (lo < s → P (s - 1) = true) ∧ (s < hi → P s = false) := by
  intro n
  induction n with
  | zero =>
    intro i j h1 h2 h3 h4 h5 h6
    obtain rfl : i = j := by omega
    exact ⟨i, iter_inr (he i h2 h4), h2, h4, h5, h6⟩
  | succ n ih =>
    intro i j h1 h2 h3 h4 h5 h6
    by_cases h : i = j
    · subst h
      exact ⟨i, iter_inr (he i h2 h4), h2, h4, h5, h6⟩
    · have e := hs i j h2 (by omega) h4
      cases hP : P ((i + j) / 2) with
      | true =>
        rw [hP] at e
        rw [iter_inl e]
        exact ih _ _ (by omega) (by omega) (by omega) h4 (fun _ => by rw [show (i + j) / 2 + 1 - 1 = (i + j) / 2 by omega]; exact hP) h6
      | false =>
        rw [hP] at e
        rw [iter_inl e]
        exact ih _ _ (by omega) h2 (by omega) (by omega) h5 (fun _ => hP)
end G
