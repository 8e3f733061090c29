/-
  THE LIBRARY'S STABLE SORT, plain: two neighbouring parts in order become one, by turns; then all of it. No program, no memory. Conditions: none.
-/
import Derived.Test.YtipbfnjpfmmkfaaGreatDoorOStable3
set_option maxRecDepth 20000
set_option linter.unusedVariables false
set_option linter.unusedSimpArgs false
namespace G
open W
variable {cmp : TDecl → TDecl → Option Int} {lt : TDecl → TDecl → Bool}
theorem b6_eq : slices_symMergeCmpFunc_Decl_b6 = slices_symMergeCmpFunc_Decl_b5 := rfl
theorem cut (hc : CmpD cmp lt) (L : List TDecl) (a m b lo hi : Nat) (hB : a + b + m < 1152921504606846976) (h1 : lo ≤ hi) (h2 : hi ≤ L.length) (h3 : hi ≤ (a + b) / 2 + m) (h4 : (a + b) / 2 + m ≤ lo + L.length) :
    ∃ s : Nat, iter (slices_symMergeCmpFunc_Decl_b5 L (a : Int) (m : Int) (b : Int) cmp) ((lo : Int), (hi : Int)) = some ((((a + b) / 2 : Nat) : Int), (((a + b) / 2 + m : Nat) : Int), (s : Int)) ∧ lo ≤ s ∧ s ≤ hi ∧
      (lo < s → ∃ u v, L[(a + b) / 2 + m - s]? = some u ∧ L[s - 1]? = some v ∧ lt u v = false) ∧ (s < hi → ∃ u v, L[(a + b) / 2 + m - 1 - s]? = some u ∧ L[s]? = some v ∧ lt u v = true) := by
  obtain ⟨s, k1, k2, k3, k4, k5⟩ := bs_loop (slices_symMergeCmpFunc_Decl_b5 L (a : Int) (m : Int) (b : Int) cmp) (fun h => match L[(a + b) / 2 + m - 1 - h]?, L[h]? with | some u, some v => !(lt u v) | _, _ => false) (fun s => ((((a + b) / 2 : Nat) : Int), (((a + b) / 2 + m : Nat) : Int), (s : Int))) lo hi
    (fun i j g1 g2 g3 => by
      unfold slices_symMergeCmpFunc_Decl_b5
      have e : decide ((i : Int) < (j : Int)) = true := by simp; omega
      simp only [e, cond_true]
      rw [half i j (by omega), half a b (by omega), w64_add _ m (by omega), w64_dec _ (by omega) (by omega), w64_dif _ _ (by omega) (by omega)]
      have hl : (i + j) / 2 < L.length := by omega
      have hl2 : (a + b) / 2 + m - 1 - (i + j) / 2 < L.length := by omega
      rw [at_of hl, at_of hl2]
      simp only [Option.bind_some]
      obtain ⟨v, hv, hlt⟩ := hc.val L[(a + b) / 2 + m - 1 - (i + j) / 2] L[(i + j) / 2]
      rw [hv]
      simp only [Option.bind_some, hlt, List.getElem?_eq_getElem hl, List.getElem?_eq_getElem hl2]
      cases lt L[(a + b) / 2 + m - 1 - (i + j) / 2] L[(i + j) / 2]
      · simp only [Bool.not_false, cond_true]
        rw [w64_inc _ (by omega)]
      · rfl)
    (fun i g1 g2 => by
      unfold slices_symMergeCmpFunc_Decl_b5
      have e : decide ((i : Int) < (i : Int)) = false := by simp
      rw [half a b (by omega), w64_add _ m (by omega), e]; rfl) (hi - lo) lo hi (Nat.le_refl _) (Nat.le_refl _) h1 (Nat.le_refl _) (by omega) (by omega)
  refine ⟨s, k1, k2, k3, fun hs => ?_, fun hs => ?_⟩
  · have hl : s - 1 < L.length := by omega
    have hl2 : (a + b) / 2 + m - 1 - (s - 1) < L.length := by omega
    have := k4 hs
    simp only [List.getElem?_eq_getElem hl, List.getElem?_eq_getElem hl2, Bool.not_eq_true'] at this
    refine ⟨_, _, ?_, List.getElem?_eq_getElem hl, this⟩
    rw [show (a + b) / 2 + m - s = (a + b) / 2 + m - 1 - (s - 1) by omega]
    exact List.getElem?_eq_getElem hl2
  · have hl : s < L.length := by omega
    have hl2 : (a + b) / 2 + m - 1 - s < L.length := by omega
    have := k5 hs
    simp only [List.getElem?_eq_getElem hl, List.getElem?_eq_getElem hl2, Bool.not_eq_false'] at this
    exact ⟨_, _, List.getElem?_eq_getElem hl2, List.getElem?_eq_getElem hl, this⟩
theorem and_if (c d : Bool) {ρ : Type} (k : Bool → Option ρ) : ((bif c then some d else some false : Option Bool)).bind k = k (c && d) := by cases c <;> rfl
def MergesTo (lt : TDecl → TDecl → Bool) (frec : Mrg) (cmp : TDecl → TDecl → Option Int) (N : Nat) : Prop := ∀ (x y p q : List TDecl) (a m b : Nat), x.length + y.length ≤ N → 0 < x.length → 0 < y.length → a = p.length → m = a + x.length → b = m + y.length → b < 144115188075855872 → Sd lt x → Sd lt y →
    ∃ z, frec (p ++ (x ++ (y ++ q))) (a : Int) (m : Int) (b : Int) cmp = some (p ++ (z ++ q)) ∧ z.Perm (x ++ y) ∧ Sd lt z
theorem symT_ok (frec : Mrg) (N : Nat) (ih : MergesTo lt frec cmp N) (x y p q : List TDecl) (a m b : Nat) (hN : x.length + y.length ≤ N) (ha : a = p.length) (hm : m = a + x.length) (hb : b = m + y.length) (hB : b < 144115188075855872) (hx : Sd lt x) (hy : Sd lt y) :
    ∃ z, symT frec cmp (p ++ (x ++ (y ++ q))) (a : Int) (m : Int) (b : Int) = some (p ++ (z ++ q)) ∧ z.Perm (x ++ y) ∧ Sd lt z := by
  unfold symT
  by_cases h1 : x.length = 0
  · obtain rfl := List.length_eq_zero_iff.1 h1
    simp only [List.length_nil] at hm
    have e : decide ((a : Int) < (m : Int)) = false := by simp; omega
    rw [e]
    exact ⟨y, rfl, by simp, hy⟩
  · have e : decide ((a : Int) < (m : Int)) = true := by simp; omega
    rw [e]
    by_cases h2 : y.length = 0
    · obtain rfl := List.length_eq_zero_iff.1 h2
      simp only [List.length_nil] at hb
      have e : decide ((m : Int) < (b : Int)) = false := by simp; omega
      rw [e]
      exact ⟨x, rfl, by simp, hx⟩
    · have e : decide ((m : Int) < (b : Int)) = true := by simp; omega
      rw [e]
      obtain ⟨z, k1, k2, k3⟩ := ih x y p q a m b hN (by omega) (by omega) ha hm hb hB hx hy;refine ⟨z, ?_, k2, k3⟩
      have hl := k2.length_eq
      simp only [cond_true, k1, Option.bind_some]
      rw [eqn_of (by simp at hl ⊢; omega)]; rfl
theorem symU_ok (frec : Mrg) (N : Nat) (ih : MergesTo lt frec cmp N) (x y p r : List TDecl) (a m b e c : Nat) (hN : x.length + y.length ≤ N) (ha : a = p.length) (hm : m = a + x.length) (hb : b = m + y.length) (hB : b < 144115188075855872) (hx : Sd lt x) (hy : Sd lt y) :
    ∃ z, symU frec cmp (p ++ (x ++ (y ++ r))) (a : Int) (m : Int) (b : Int) (e : Int) (c : Int) = symT frec cmp (p ++ (z ++ r)) (b : Int) (e : Int) (c : Int) ∧ z.Perm (x ++ y) ∧ Sd lt z := by
  unfold symU
  rw [and_if]
  by_cases h1 : x.length = 0
  · obtain rfl := List.length_eq_zero_iff.1 h1
    simp only [List.length_nil] at hm
    have e : decide ((a : Int) < (m : Int)) = false := by simp; omega
    rw [e]
    exact ⟨y, rfl, by simp, hy⟩
  · have e : decide ((a : Int) < (m : Int)) = true := by simp; omega
    rw [e]
    by_cases h2 : y.length = 0
    · obtain rfl := List.length_eq_zero_iff.1 h2
      simp only [List.length_nil] at hb
      have e : decide ((m : Int) < (b : Int)) = false := by simp; omega
      rw [e]
      exact ⟨x, by simp, by simp, hx⟩
    · have e : decide ((m : Int) < (b : Int)) = true := by simp; omega
      rw [e]
      obtain ⟨z, k1, k2, k3⟩ := ih x y p r a m b hN (by omega) (by omega) ha hm hb hB hx hy;refine ⟨z, ?_, k2, k3⟩
      have hl := k2.length_eq
      simp only [Bool.and_self, cond_true, k1, Option.bind_some]
      rw [eqn_of (by simp at hl ⊢; omega)]; rfl
theorem symK_ok (frec : Mrg) (N : Nat) (ih : MergesTo lt frec cmp N) (x1 x2 y1 y2 p q : List TDecl) (a s m e mid n b : Nat) (hN1 : x1.length + y1.length ≤ N) (hN2 : x2.length + y2.length ≤ N) (ha : a = p.length) (hs : s = a + x1.length) (hm : m = s + x2.length) (he : e = m + y1.length) (hb : b = e + y2.length) (hmid : mid = s + y1.length) (hn : n = e + s) (hB' : n < 1152921504606846976) (hB : b < 144115188075855872)
    (hx : Sd lt (x1 ++ x2)) (hy : Sd lt (y1 ++ y2)) (c1 : ∀ u ∈ x1, ∀ v ∈ y2, lt v u = false) (c2 : ∀ u ∈ y1, ∀ v ∈ x2, lt v u = false) :
    ∃ z, symK frec cmp (p ++ (x1 ++ (x2 ++ (y1 ++ (y2 ++ q))))) (a : Int) (m : Int) (b : Int) ((mid : Int), (n : Int), (s : Int)) = some (p ++ (z ++ q)) ∧ z.Perm (x1 ++ (x2 ++ (y1 ++ y2))) ∧ Sd lt z := by
  obtain ⟨hx1, hx2, hx3⟩ := Sd_app.1 hx;obtain ⟨hy1, hy2, hy3⟩ := Sd_app.1 hy
  have stepA : symK frec cmp (p ++ (x1 ++ (x2 ++ (y1 ++ (y2 ++ q))))) (a : Int) (m : Int) (b : Int) ((mid : Int), (n : Int), (s : Int)) = symU frec cmp (p ++ (x1 ++ (y1 ++ (x2 ++ (y2 ++ q))))) (a : Int) (s : Int) (mid : Int) (e : Int) (b : Int) := by
    unfold symK
    simp only
    rw [and_if, w64_dif n s (by omega) (by omega), show n - s = e by omega]
    by_cases h1 : x2.length = 0
    · obtain rfl := List.length_eq_zero_iff.1 h1
      have g : decide ((s : Int) < (m : Int)) = false := by simp at hm ⊢; omega
      rw [g]; simp
    · have g : decide ((s : Int) < (m : Int)) = true := by simp; omega
      rw [g]
      by_cases h2 : y1.length = 0
      · obtain rfl := List.length_eq_zero_iff.1 h2
        have g : decide ((m : Int) < (e : Int)) = false := by simp at he ⊢; omega
        rw [g]; simp
      · have g : decide ((m : Int) < (e : Int)) = true := by simp; omega
        rw [g]
        have r := rot cmp (p ++ x1) x2 y1 (y2 ++ q) s m e (by omega) (by omega) (by simp; omega) (by omega) (by omega) (by omega)
        simp only [List.append_assoc] at r
        simp only [Bool.and_self, cond_true, r, Option.bind_some]
        rw [eqn_of (by simp; omega)]; rfl
  rw [stepA]
  obtain ⟨z1, k1, k2, k3⟩ := symU_ok (lt := lt) frec N ih x1 y1 p (x2 ++ (y2 ++ q)) a s mid e b hN1 ha hs hmid (by omega) hx1 hy1
  rw [k1]
  have hl1 := k2.length_eq
  simp only [List.length_append] at hl1
  obtain ⟨z2, m1, m2, m3⟩ := symT_ok (lt := lt) (cmp := cmp) frec N ih x2 y2 (p ++ z1) q mid e b hN2 (by simp; omega) (by omega) (by omega) (by omega) hx2 hy2
  simp only [List.append_assoc] at m1
  rw [m1]
  refine ⟨z1 ++ z2, by simp, ?_, Sd_app.2 ⟨k3, m3, fun u hu v hv => ?_⟩⟩
  · refine (k2.append m2).trans ?_
    rw [List.append_assoc]
    refine List.Perm.append_left x1 ?_
    rw [← List.append_assoc, ← List.append_assoc]
    exact List.Perm.append_right y2 List.perm_append_comm
  · have hu' := k2.mem_iff.1 hu
    have hv' := m2.mem_iff.1 hv
    rcases List.mem_append.1 hu' with hu | hu <;> rcases List.mem_append.1 hv' with hv | hv
    · exact hx3 u hu v hv
    · exact c1 u hu v hv
    · exact c2 u hu v hv
    · exact hy3 u hu v hv
theorem get_app {L : List TDecl} {c : TDecl} {i : Nat} {u : TDecl} (h : L[i]? = some u) (l1 r : List TDecl) (hL : L = l1 ++ c :: r) (hi : i = l1.length) : u = c := by
  subst hi hL
  rw [List.getElem?_append_right (Nat.le_refl _), Nat.sub_self] at h
  cases h; rfl
theorem sym (hc : CmpD cmp lt) : ∀ N, MergesTo lt (slices_symMergeCmpFunc_Decl_n N) cmp N := by
  intro N
  induction N with
  | zero => intro x y p q a m b h h1; omega
  | succ N ih =>
    intro x y p q a m b hN hx0 hy0 ha hm hb hB hx hy
    show ∃ z, slices_symMergeCmpFunc_Decl_F (slices_symMergeCmpFunc_Decl_n N) (p ++ (x ++ (y ++ q))) (a : Int) (m : Int) (b : Int) cmp = some (p ++ (z ++ q)) ∧ z.Perm (x ++ y) ∧ Sd lt z
    rw [symF_eq, w64_dif m a (by omega) (by omega), w64_dif b m (by omega) (by omega), half a b (by omega)]
    by_cases h1 : x.length = 1
    · have e : (((m - a : Nat) : Int) == 1) = true := by simp; omega
      rw [e]
      match x, h1 with
      | [d], _ => exact sym_one hc p y q d a m b ha (by simpa using hm) hb (by omega) hy
    · have e : (((m - a : Nat) : Int) == 1) = false := by simp; omega
      rw [e]
      by_cases h2 : y.length = 1
      · have e : (((b - m : Nat) : Int) == 1) = true := by simp; omega
        rw [e]
        match y, h2 with
        | [d], _ => exact sym_two hc p x q d a m b ha hm (by omega) hx
      · have e : (((b - m : Nat) : Int) == 1) = false := by simp; omega
        rw [e]
        simp only [cond_false]
        have hL : (p ++ (x ++ (y ++ q))).length = b + q.length := by simp; omega
        have fin : ∀ s lo hi : Nat, lo ≤ s → s ≤ hi → ((a + b) / 2 < m → lo = (a + b) / 2 + m - b ∧ hi = (a + b) / 2) → (m ≤ (a + b) / 2 → lo = a ∧ hi = m) →
            (lo < s → ∃ u v, (p ++ (x ++ (y ++ q)))[(a + b) / 2 + m - s]? = some u ∧ (p ++ (x ++ (y ++ q)))[s - 1]? = some v ∧ lt u v = false) → (s < hi → ∃ u v, (p ++ (x ++ (y ++ q)))[(a + b) / 2 + m - 1 - s]? = some u ∧ (p ++ (x ++ (y ++ q)))[s]? = some v ∧ lt u v = true) →
            ∃ z, symK (slices_symMergeCmpFunc_Decl_n N) cmp (p ++ (x ++ (y ++ q))) (a : Int) (m : Int) (b : Int) ((((a + b) / 2 : Nat) : Int), (((a + b) / 2 + m : Nat) : Int), (s : Int)) = some (p ++ (z ++ q)) ∧ z.Perm (x ++ y) ∧ Sd lt z := by
          intro s lo hi g1 g2 g3 g4 g5 g6
          obtain ⟨x1, x2, rfl, hx1⟩ := split_at x (s - a) (by omega);obtain ⟨y1, y2, rfl, hy1⟩ := split_at y ((a + b) / 2 + m - s - m) (by omega)
          simp only [List.length_append] at *
          obtain ⟨k1, k2, k3⟩ := Sd_app.1 hx;obtain ⟨j1, j2, j3⟩ := Sd_app.1 hy
          have c1 : ∀ u ∈ x1, ∀ v ∈ y2, lt v u = false := by
            rcases List.eq_nil_or_concat x1 with rfl | ⟨l, c, rfl⟩
            · simp
            · cases y2 with
              | nil => simp
              | cons d r =>
                simp only [List.concat_eq_append, List.length_append, List.length_singleton, List.length_cons, List.length_nil, Nat.zero_add] at *
                obtain ⟨u, v, e1, e2, e3⟩ := g5 (by omega)
                have hu : u = d := get_app e1 (p ++ ((l ++ [c]) ++ (x2 ++ y1))) (r ++ q) (by simp) (by simp; omega)
                have hv : v = c := get_app e2 (p ++ l) (x2 ++ (y1 ++ (d :: (r ++ q)))) (by simp) (by simp; omega)
                subst hu hv
                intro w hw v' hv'
                exact hc.nt _ _ _ (ge_first (d := u) hc j2 (irr hc u) v' hv') (le_last hc k1 e3 w hw)
          have c2 : ∀ u ∈ y1, ∀ v ∈ x2, lt v u = false := by
            rcases List.eq_nil_or_concat y1 with rfl | ⟨l, c, rfl⟩
            · simp
            · cases x2 with
              | nil => simp
              | cons d r =>
                simp only [List.concat_eq_append, List.length_append, List.length_singleton, List.length_cons, List.length_nil, Nat.zero_add] at *
                obtain ⟨u, v, e1, e2, e3⟩ := g6 (by omega)
                have hu : u = c := get_app e1 (p ++ (x1 ++ ((d :: r) ++ l))) (y2 ++ q) (by simp) (by simp; omega)
                have hv : v = d := get_app e2 (p ++ x1) (r ++ ((l ++ [c]) ++ (y2 ++ q))) (by simp) (by simp; omega)
                subst hu hv
                intro w hw v' hv'
                exact hc.nt _ _ _ (ge_first (d := v) hc k2 (irr hc v) v' hv') (le_last hc j1 (hc.asym _ _ e3) w hw)
          obtain ⟨z, m1, m2, m3⟩ := symK_ok (lt := lt) (cmp := cmp) (slices_symMergeCmpFunc_Decl_n N) N ih x1 x2 y1 y2 p q a s m ((a + b) / 2 + m - s) ((a + b) / 2) ((a + b) / 2 + m) b (by omega) (by omega) ha (by omega) (by omega) (by omega) (by omega) (by omega) (by omega) (by omega) hB hx hy c1 c2
          simp only [List.append_assoc]
          exact ⟨z, m1, m2, m3⟩
        by_cases h3 : (a + b) / 2 < m
        · have e : decide ((m : Int) > (((a + b) / 2 : Nat) : Int)) = true := by simp; omega
          rw [e]
          simp only [cond_true]
          rw [w64_add _ m (by omega), w64_dif _ b (by omega) (by omega)]
          obtain ⟨s, k1, k2, k3, k4, k5⟩ := cut hc (p ++ (x ++ (y ++ q))) a m b ((a + b) / 2 + m - b) ((a + b) / 2) (by omega) (by omega) (by omega) (by omega) (by omega)
          rw [k1]
          exact fin s _ _ k2 k3 (fun _ => ⟨rfl, rfl⟩) (fun h => by omega) k4 k5
        · have e : decide ((m : Int) > (((a + b) / 2 : Nat) : Int)) = false := by simp; omega
          rw [e]
          simp only [cond_false]
          rw [b6_eq]
          obtain ⟨s, k1, k2, k3, k4, k5⟩ := cut hc (p ++ (x ++ (y ++ q))) a m b a m (by omega) (by omega) (by omega) (by omega) (by omega)
          rw [k1]
          exact fin s _ _ k2 k3 (fun h => by omega) (fun _ => ⟨rfl, rfl⟩) k4 k5
end G
