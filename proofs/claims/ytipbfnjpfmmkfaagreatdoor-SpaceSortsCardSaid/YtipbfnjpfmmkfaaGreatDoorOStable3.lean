/-
  THE LIBRARY'S STABLE SORT, plain: two neighbouring parts in order become one. No program, no memory. Conditions: none.
-/
import Derived.Test.YtipbfnjpfmmkfaaGreatDoorOStable2
set_option maxRecDepth 20000
set_option linter.unusedVariables false
set_option linter.unusedSimpArgs false
namespace G
open W
variable {cmp : TDecl → TDecl → Option Int} {lt : TDecl → TDecl → Bool}
abbrev Mrg := List TDecl → Int → Int → Int → (TDecl → TDecl → Option Int) → Option (List TDecl)
def symT (frec : Mrg) (cmp : TDecl → TDecl → Option Int) (D : List TDecl) (mid e b : Int) : Option (List TDecl) :=
  (bif (decide (mid < e)) then (bif (decide (e < b)) then (frec D mid e b cmp).bind fun v => (eqn v.length D.length).bind fun _ => some v else some D) else some D)
def symU (frec : Mrg) (cmp : TDecl → TDecl → Option Int) (D : List TDecl) (a s mid e b : Int) : Option (List TDecl) :=
  ((bif (decide (a < s)) then some (decide (s < mid)) else some false) : Option (Bool)).bind (fun (q : Bool) => (bif q then (frec D a s mid cmp).bind fun v => (eqn v.length D.length).bind fun _ => symT frec cmp v mid e b else symT frec cmp D mid e b))
noncomputable def symK (frec : Mrg) (cmp : TDecl → TDecl → Option Int) (data : List TDecl) (a m b : Int) (q : Int × Int × Int) : Option (List TDecl) :=
  ((bif (decide (q.2.2 < m)) then some (decide (m < (w64 (q.2.1 - q.2.2)))) else some false) : Option (Bool)).bind (fun (q' : Bool) => (bif q' then (slices_rotateCmpFunc_Decl data q.2.2 m (w64 (q.2.1 - q.2.2)) cmp).bind fun v => (eqn v.length data.length).bind fun _ => symU frec cmp v a q.2.2 q.1 (w64 (q.2.1 - q.2.2)) b else symU frec cmp data a q.2.2 q.1 (w64 (q.2.1 - q.2.2)) b))
theorem symF_eq (frec : Mrg) (data : List TDecl) (a m b : Int) (cmp : TDecl → TDecl → Option Int) : slices_symMergeCmpFunc_Decl_F frec data a m b cmp =
  (bif ((w64 (m - a)) == 1) then (iter (slices_symMergeCmpFunc_Decl_b1 data a cmp) (m, b)).bind (fun (q5 : Int) => (iter (slices_symMergeCmpFunc_Decl_b2 q5) (a, data)).bind (fun (q13 : (List TDecl)) => some q13)) else (bif ((w64 (b - m)) == 1) then (iter (slices_symMergeCmpFunc_Decl_b3 data m cmp) (a, m)).bind (fun (q18 : Int) => (iter (slices_symMergeCmpFunc_Decl_b4 q18) (m, data)).bind (fun (q26 : (List TDecl)) => some q26)) else (bif (decide (m > (w64 ((v64 (w64 (a + b))).fdiv (2 ^ 1))))) then (iter (slices_symMergeCmpFunc_Decl_b5 data a m b cmp) ((w64 ((w64 ((w64 ((v64 (w64 (a + b))).fdiv (2 ^ 1))) + m)) - b)), (w64 ((v64 (w64 (a + b))).fdiv (2 ^ 1))))).bind (symK frec cmp data a m b) else (iter (slices_symMergeCmpFunc_Decl_b6 data a m b cmp) (a, m)).bind (symK frec cmp data a m b)))) := rfl
theorem shr_loop (s : Nat) (p q : List TDecl) (d : TDecl) : ∀ (y2 y1 : List TDecl), s = p.length + y1.length + y2.length + 1 → s < 2305843009213693952 →
    iter (slices_symMergeCmpFunc_Decl_b2 (s : Int)) (((p.length + y1.length : Nat) : Int), p ++ (y1 ++ (d :: (y2 ++ q)))) = some (p ++ (y1 ++ (y2 ++ (d :: q)))) := by
  intro y2
  induction y2 with
  | nil =>
    intro y1 hs hB
    simp only [List.length_nil] at hs
    refine iter_inr ?_;unfold slices_symMergeCmpFunc_Decl_b2
    rw [w64_dec s (by omega) (by omega)]
    have e : decide (((p.length + y1.length : Nat) : Int) < ((s - 1 : Nat) : Int)) = false := by simp; omega
    rw [e]; rfl
  | cons c y2 ih =>
    intro y1 hs hB
    simp only [List.length_cons] at hs
    have k := ih (y1 ++ [c]) (by simp; omega) hB
    simp only [List.append_assoc, List.cons_append, List.nil_append, List.length_append, List.length_singleton] at k ⊢
    rw [← k]
    refine iter_inl ?_;unfold slices_symMergeCmpFunc_Decl_b2
    rw [w64_dec s (by omega) (by omega)]
    have e : decide (((p.length + y1.length : Nat) : Int) < ((s - 1 : Nat) : Int)) = true := by simp; omega
    simp only [e, cond_true]
    rw [w64_inc _ (by omega), swp (p ++ y1) [] (y2 ++ q) d c (by simp) (by simp) (by simp)]
    simp [Nat.add_assoc]
theorem shl_loop (s : Nat) (p q : List TDecl) (d : TDecl) (hs : s = p.length) : ∀ (n : Nat) (x1 x2 : List TDecl), x1.length = n → s + n < 2305843009213693952 →
    iter (slices_symMergeCmpFunc_Decl_b4 (s : Int)) (((s + n : Nat) : Int), p ++ (x1 ++ (d :: (x2 ++ q)))) = some (p ++ (d :: (x1 ++ (x2 ++ q)))) := by
  intro n
  induction n with
  | zero =>
    intro x1 x2 h hB
    obtain rfl := List.length_eq_zero_iff.1 h;refine iter_inr ?_;unfold slices_symMergeCmpFunc_Decl_b4
    have e : decide (((s + 0 : Nat) : Int) > (s : Int)) = false := by simp
    rw [e]; rfl
  | succ n ih =>
    intro x1 x2 h hB
    rcases List.eq_nil_or_concat x1 with rfl | ⟨l, c, rfl⟩
    · simp at h
    · simp only [List.concat_eq_append, List.length_append, List.length_singleton, List.append_assoc, List.cons_append, List.nil_append] at h ⊢
      have k := ih l (c :: x2) (by omega) (by omega)
      simp only [List.cons_append] at k
      rw [← k]
      refine iter_inl ?_;unfold slices_symMergeCmpFunc_Decl_b4
      have e : decide (((s + (n + 1) : Nat) : Int) > (s : Int)) = true := by simp; omega
      simp only [e, cond_true]
      rw [w64_dec _ (by omega) (by omega), show s + (n + 1) - 1 = s + n by omega, swp' (p ++ l) [] (x2 ++ q) c d (by simp) (by simp; omega) (by simp; omega)]
      simp
theorem split_at (l : List TDecl) (n : Nat) (h : n ≤ l.length) : ∃ l1 l2, l = l1 ++ l2 ∧ l1.length = n := ⟨l.take n, l.drop n, (List.take_append_drop _ _).symm, by simp; omega⟩
theorem sym_one (hc : CmpD cmp lt) (p y q : List TDecl) (d : TDecl) (a m b : Nat) (ha : a = p.length) (hm : m = a + 1) (hb : b = m + y.length) (hB : b < 1152921504606846976) (hy : Sd lt y) :
    ∃ z, ((iter (slices_symMergeCmpFunc_Decl_b1 (p ++ (d :: (y ++ q))) (a : Int) cmp) ((m : Int), (b : Int))).bind fun (q5 : Int) => (iter (slices_symMergeCmpFunc_Decl_b2 q5) ((a : Int), p ++ (d :: (y ++ q)))).bind fun q13 => some q13) = some (p ++ (z ++ q)) ∧ z.Perm (d :: y) ∧ Sd lt z := by
  obtain ⟨s, k1, k2, k3, k4, k5⟩ := bs_loop (slices_symMergeCmpFunc_Decl_b1 (p ++ (d :: (y ++ q))) (a : Int) cmp) (fun h => match (p ++ (d :: (y ++ q)))[h]? with | some v => lt v d | none => false) (fun s => (s : Int)) m b
    (fun i j h1 h2 h3 => by
      unfold slices_symMergeCmpFunc_Decl_b1
      have e : decide ((i : Int) < (j : Int)) = true := by simp; omega
      simp only [e, cond_true]
      rw [half i j (by omega)]
      have hl : (i + j) / 2 < (p ++ (d :: (y ++ q))).length := by simp; omega
      rw [at_of hl, at_mid p d (y ++ q) rfl ha]
      simp only [Option.bind_some]
      obtain ⟨v, hv, hlt⟩ := hc.val (p ++ (d :: (y ++ q)))[(i + j) / 2] d
      rw [hv]
      simp only [Option.bind_some, hlt, List.getElem?_eq_getElem hl]
      cases lt (p ++ (d :: (y ++ q)))[(i + j) / 2] d
      · rfl
      · rw [w64_inc _ (by omega)]; rfl)
    (fun i h1 h2 => by
      unfold slices_symMergeCmpFunc_Decl_b1
      have e : decide ((i : Int) < (i : Int)) = false := by simp
      rw [e]; rfl) (b - m) m b (Nat.le_refl _) (Nat.le_refl _) (by omega) (Nat.le_refl _) (by omega) (by omega)
  obtain ⟨y1, y2, rfl, hl⟩ := split_at y (s - m) (by omega)
  rw [k1]
  simp only [Option.bind_some, List.append_assoc]
  have sh := shr_loop s p (y2 ++ q) d y1 [] (by simp; omega) (by omega)
  simp only [List.length_nil, Nat.add_zero, List.nil_append] at sh
  rw [ha, sh]
  refine ⟨y1 ++ (d :: y2), by simp, List.perm_middle, Sd_mid hy ?_ ?_⟩
  · rcases List.eq_nil_or_concat y1 with rfl | ⟨l, c, rfl⟩
    · simp
    · simp only [List.concat_eq_append, List.length_append, List.length_singleton] at hl hy ⊢
      have := k4 (by omega)
      rw [show (p ++ (d :: (((l.concat c) ++ y2) ++ q)))[s - 1]? = some c by
        rw [show p ++ (d :: (((l.concat c) ++ y2) ++ q)) = (p ++ (d :: l)) ++ c :: (y2 ++ q) by simp]
        rw [List.getElem?_append_right (by simp; omega), show s - 1 - (p ++ d :: l).length = 0 by simp; omega]; rfl] at this
      exact le_last hc (Sd_app.1 hy).1 (hc.asym _ _ this)
  · cases y2 with
    | nil => simp
    | cons c l =>
      simp only [List.length_append, List.length_cons] at hb
      have := k5 (by omega)
      rw [show (p ++ (d :: ((y1 ++ (c :: l)) ++ q)))[s]? = some c by
        rw [show p ++ (d :: ((y1 ++ (c :: l)) ++ q)) = (p ++ (d :: y1)) ++ c :: (l ++ q) by simp]
        rw [List.getElem?_append_right (by simp; omega), show s - (p ++ d :: y1).length = 0 by simp; omega]; rfl] at this
      exact ge_first hc (Sd_app.1 hy).2.1 this
theorem sym_two (hc : CmpD cmp lt) (p x q : List TDecl) (d : TDecl) (a m b : Nat) (ha : a = p.length) (hm : m = a + x.length) (hB : m < 1152921504606846976) (hx : Sd lt x) :
    ∃ z, ((iter (slices_symMergeCmpFunc_Decl_b3 (p ++ (x ++ (d :: q))) (m : Int) cmp) ((a : Int), (m : Int))).bind fun (q18 : Int) => (iter (slices_symMergeCmpFunc_Decl_b4 q18) ((m : Int), p ++ (x ++ (d :: q)))).bind fun q26 => some q26) = some (p ++ (z ++ q)) ∧ z.Perm (x ++ [d]) ∧ Sd lt z := by
  obtain ⟨s, k1, k2, k3, k4, k5⟩ := bs_loop (slices_symMergeCmpFunc_Decl_b3 (p ++ (x ++ (d :: q))) (m : Int) cmp) (fun h => match (p ++ (x ++ (d :: q)))[h]? with | some v => !(lt d v) | none => false) (fun s => (s : Int)) a m
    (fun i j h1 h2 h3 => by
      unfold slices_symMergeCmpFunc_Decl_b3
      have e : decide ((i : Int) < (j : Int)) = true := by simp; omega
      simp only [e, cond_true]
      rw [half i j (by omega)]
      have hl : (i + j) / 2 < (p ++ (x ++ (d :: q))).length := by simp; omega
      rw [at_of hl, at_mid (p ++ x) d q (by simp) (by simp; omega)]
      simp only [Option.bind_some]
      obtain ⟨v, hv, hlt⟩ := hc.val d (p ++ (x ++ (d :: q)))[(i + j) / 2]
      rw [hv]
      simp only [Option.bind_some, hlt, List.getElem?_eq_getElem hl]
      cases lt d (p ++ (x ++ (d :: q)))[(i + j) / 2]
      · simp only [Bool.not_false, cond_true]
        rw [w64_inc _ (by omega)]
      · rfl)
    (fun i h1 h2 => by
      unfold slices_symMergeCmpFunc_Decl_b3
      have e : decide ((i : Int) < (i : Int)) = false := by simp
      rw [e]; rfl) (m - a) a m (Nat.le_refl _) (Nat.le_refl _) (by omega) (Nat.le_refl _) (by omega) (by omega)
  obtain ⟨x1, x2, rfl, hl⟩ := split_at x (s - a) (by omega)
  rw [k1]
  simp only [List.length_append] at hm
  have sh := shl_loop s (p ++ x1) q d (by simp; omega) x2.length x2 [] rfl (by omega)
  simp only [List.nil_append, List.append_assoc, show s + x2.length = m by omega] at sh
  simp only [Option.bind_some, List.append_assoc]
  rw [sh]
  refine ⟨x1 ++ (d :: x2), by simp, by simpa using (List.perm_append_comm (l₁ := [d]) (l₂ := x2)).append_left x1, Sd_mid hx ?_ ?_⟩
  · rcases List.eq_nil_or_concat x1 with rfl | ⟨l, c, rfl⟩
    · simp
    · simp only [List.concat_eq_append, List.length_append, List.length_singleton] at hl hx ⊢
      have := k4 (by omega)
      rw [show (p ++ (((l.concat c) ++ x2) ++ (d :: q)))[s - 1]? = some c by
        rw [show p ++ (((l.concat c) ++ x2) ++ (d :: q)) = (p ++ l) ++ c :: (x2 ++ (d :: q)) by simp]
        rw [List.getElem?_append_right (by simp; omega), show s - 1 - (p ++ l).length = 0 by simp; omega]; rfl] at this
      simp only [Bool.not_eq_true'] at this
      exact le_last hc (Sd_app.1 hx).1 this
  · cases x2 with
    | nil => simp
    | cons c l =>
      simp only [List.length_cons] at hm
      have := k5 (by omega)
      rw [show (p ++ ((x1 ++ (c :: l)) ++ (d :: q)))[s]? = some c by
        rw [show p ++ ((x1 ++ (c :: l)) ++ (d :: q)) = (p ++ x1) ++ c :: (l ++ (d :: q)) by simp]
        rw [List.getElem?_append_right (by simp; omega), show s - (p ++ x1).length = 0 by simp; omega]; rfl] at this
      simp only [Bool.not_eq_false'] at this
      exact ge_first hc (Sd_app.1 hx).2.1 (hc.asym _ _ this)
end G
