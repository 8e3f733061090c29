/-
  PLAIN LAWS OF SETS OF POINTS: the laws NodesMeets, NodesLaws. No program, no memory. Conditions: none.
-/
import Derived.Test.YtebcdmfekidfoaaPNodes4
set_option linter.unusedVariables false
set_option linter.unusedSimpArgs false
namespace G
open W
theorem concat_eq (a b : List TPoint) (h : a.length + b.length < 1099511627776) : slices_Concat_Point [a, b] = some (a ++ b) := by
  unfold slices_Concat_Point
  have s1 : slices_Concat_Point_b1 [a, b] ((0 : Int), (0 : Int)) = some (.inl ((a.length : Int), (1 : Int))) := by
    unfold slices_Concat_Point_b1
    simp only
    rw [show decide ((0 : Int) < (([a, b].length : Nat) : Int)) = true from rfl]
    simp only [cond_true]
    rw [show at' [a, b] (0 : Int) = some a from rfl]
    simp only [Option.bind_some]
    rw [show (0 : Int) + (a.length : Int) = (a.length : Int) by omega, w64_nat (by omega), show decide ((a.length : Int) < 0) = false by simp]
    rfl
  have s2 : slices_Concat_Point_b1 [a, b] ((a.length : Int), (1 : Int)) = some (.inl (((a.length + b.length : Nat) : Int), (2 : Int))) := by
    unfold slices_Concat_Point_b1
    simp only
    rw [show decide ((1 : Int) < (([a, b].length : Nat) : Int)) = true from rfl]
    simp only [cond_true]
    rw [show at' [a, b] (1 : Int) = some b from rfl]
    simp only [Option.bind_some]
    rw [show (a.length : Int) + (b.length : Int) = ((a.length + b.length : Nat) : Int) by omega, w64_nat (by omega), show decide (((a.length + b.length : Nat) : Int) < 0) = false by simp only [decide_eq_false_iff_not]; omega]
    rfl
  have s3 : slices_Concat_Point_b1 [a, b] (((a.length + b.length : Nat) : Int), (2 : Int)) = some (.inr ((a.length + b.length : Nat) : Int)) := by
    unfold slices_Concat_Point_b1
    rfl
  rw [iter_inl s1, iter_inl s2, iter_inr s3]
  simp only [Option.bind_some]
  have g : slices_Grow_Point_nil ((a.length + b.length : Nat) : Int) = some [] := by
    unfold slices_Grow_Point_nil
    rw [show decide (((a.length + b.length : Nat) : Int) < 0) = false by simp only [decide_eq_false_iff_not]; omega]
    simp only [cond_false]
    rw [show w64 (0 - 0) = 0 from w64_of (by decide), show ((a.length + b.length : Nat) : Int) - 0 = ((a.length + b.length : Nat) : Int) by omega, w64_nat (by omega)]
    by_cases h0 : 0 < a.length + b.length
    · rw [show decide (((a.length + b.length : Nat) : Int) > 0) = true by simp; omega]
      simp only [cond_true]
      rw [mkp_of _ (by omega)]
      simp only [Option.bind_some]
      rw [rng_of (by omega)]
      simp only [Option.bind_some]
      rw [prt_of (by omega)]
      rfl
    · rw [show decide (((a.length + b.length : Nat) : Int) > 0) = false by simp; omega]
      rfl
  rw [g]
  simp only [Option.bind_some]
  have t1 : slices_Concat_Point_b2 [a, b] ((0 : Int), []) = some (.inl ((1 : Int), a)) := by
    unfold slices_Concat_Point_b2
    simp only
    rw [show decide ((0 : Int) < (([a, b].length : Nat) : Int)) = true from rfl]
    simp only [cond_true]
    rw [show at' [a, b] (0 : Int) = some a from rfl]
    simp only [Option.bind_some]
    rw [app_of (by simp; omega)]
    rfl
  have t2 : slices_Concat_Point_b2 [a, b] ((1 : Int), a) = some (.inl ((2 : Int), a ++ b)) := by
    unfold slices_Concat_Point_b2
    simp only
    rw [show decide ((1 : Int) < (([a, b].length : Nat) : Int)) = true from rfl]
    simp only [cond_true]
    rw [show at' [a, b] (1 : Int) = some b from rfl]
    simp only [Option.bind_some]
    rw [app_of (by omega)]
    rfl
  have t3 : slices_Concat_Point_b2 [a, b] ((2 : Int), a ++ b) = some (.inr (a ++ b)) := by
    unfold slices_Concat_Point_b2
    rfl
  rw [iter_inl t1, iter_inl t2, iter_inr t3]
  rfl
theorem union_eq (a b : List TPoint) (h : a.length + b.length < 1099511627776) : ∃ r, nodes_Union a b = some r ∧ IsSet (a ++ b) r := by
  unfold nodes_Union
  rw [concat_eq a b h]
  obtain ⟨r, h1, h2⟩ := of_eq (a ++ b) (by rw [List.length_append]; exact h)
  simp only [Option.bind_some]
  rw [h1]
  exact ⟨r, rfl, h2⟩
/-- Those of a that are in b, or aren't. -/
abbrev kp (a b : List TPoint) (in_ : Bool) : List TPoint := a.filter fun p => decide (p ∈ b) == in_
theorem kept_eq (a b : List TPoint) (in_ : Bool) (ha : a.length < 1099511627776) (hb : b.length < 1099511627776) : ∃ r, nodes_kept a b in_ = some r ∧ IsSet (kp a b in_) r := by
  unfold nodes_kept
  obtain ⟨ob, h1, h2⟩ := of_eq b hb
  obtain ⟨oa, h3, h4⟩ := of_eq a ha
  rw [h1, h3]
  simp only [Option.bind_some]
  have hob := h2.length_le
  have hoa := h4.length_le
  rw [del_eq (g := fun p => !(decide (p ∈ ob) == in_)) (fun x => by
    unfold nodes_kept_c1
    obtain ⟨n, hn⟩ := bs_eq x h2.asc (by omega)
    rw [hn]; rfl) oa (by omega)]
  refine ⟨_, rfl, h4.asc.filter _, fun p => ?_⟩
  simp only [List.mem_filter, Bool.not_not, h4.mem, h2.mem]
theorem meet_eq (a b : List TPoint) (ha : a.length < 1099511627776) (hb : b.length < 1099511627776) : ∃ r, nodes_Meet a b = some r ∧ IsSet (kp a b true) r := by
  obtain ⟨r, h1, h2⟩ := kept_eq a b true ha hb
  exact ⟨r, by unfold nodes_Meet; rw [h1]; rfl, h2⟩
theorem without_eq (a b : List TPoint) (ha : a.length < 1099511627776) (hb : b.length < 1099511627776) : ∃ r, nodes_Without a b = some r ∧ IsSet (kp a b false) r := by
  obtain ⟨r, h1, h2⟩ := kept_eq a b false ha hb
  exact ⟨r, by unfold nodes_Without; rw [h1]; rfl, h2⟩
theorem mem_kp_true {a b : List TPoint} {p : TPoint} : p ∈ kp a b true ↔ p ∈ a ∧ p ∈ b := by simp [kp]
theorem mem_kp_false {a b : List TPoint} {p : TPoint} : p ∈ kp a b false ↔ p ∈ a ∧ p ∉ b := by simp [kp]
theorem kp_len (a b : List TPoint) (c : Bool) : (kp a b c).length ≤ a.length := List.length_filter_le _ _
theorem nodup_len {l m : List TPoint} (h : l.Nodup) (h' : m.Nodup) (he : ∀ p, p ∈ l ↔ p ∈ m) : l.length = m.length :=
  Nat.le_antisymm (h.length_le_of_subset fun p hp => (he p).1 hp) (h'.length_le_of_subset fun p hp => (he p).2 hp)
theorem meets_true (a b : List TPoint) : apostillelaw11_NodesMeets a b = some true := by
  unfold apostillelaw11_NodesMeets
  rw [awake_true]
  simp only [Option.bind_some, Bool.not_true, cond_false]
  by_cases ha : a.length > 40
  · rw [show decide ((a.length : Int) > 40) = true by simp; omega]; rfl
  rw [show decide ((a.length : Int) > 40) = false by simp; omega]
  simp only [cond_false]
  by_cases hb : b.length > 40
  · rw [show decide ((b.length : Int) > 40) = true by simp; omega]; rfl
  rw [show decide ((b.length : Int) > 40) = false by simp; omega]
  obtain ⟨u, hu, iu⟩ := union_eq a b (by omega)
  obtain ⟨m, hm, im⟩ := meet_eq a b (by omega) (by omega)
  obtain ⟨x, hx, ix⟩ := without_eq a b (by omega) (by omega)
  obtain ⟨y, hy, iy⟩ := without_eq b a (by omega) (by omega)
  obtain ⟨m2, hm2, im2⟩ := meet_eq b a (by omega) (by omega)
  obtain ⟨ru, hru, iru⟩ := ref_of (a ++ b) (by rw [List.length_append]; omega)
  obtain ⟨rm, hrm, irm⟩ := ref_kept a b true (by omega) (by omega)
  obtain ⟨rx, hrx, irx⟩ := ref_kept a b false (by omega) (by omega)
  have lu := iu.length_le; have lm := im.length_le; have lx := ix.length_le; have ly := iy.length_le
  rw [List.length_append] at lu
  have km := kp_len a b true; have kx := kp_len a b false; have ky := kp_len b a false
  obtain ⟨xm, hxm, ixm⟩ := union_eq x m (by omega)
  have lxm := ixm.length_le
  rw [List.length_append] at lxm
  obtain ⟨xmy, hxmy, ixmy⟩ := union_eq xm y (by omega)
  have e1 := iru.unique iu; have e2 := irm.unique im; have e3 := irx.unique ix
  subst e1; subst e2; subst e3
  have e4 : xmy = ru := ixmy.eq_of iu fun p => by
    simp only [List.mem_append, ixm.mem, im.mem, ix.mem, iy.mem, mem_kp_true, mem_kp_false]
    by_cases h1 : p ∈ a <;> by_cases h2 : p ∈ b <;> simp [h1, h2]
  have e5 : rm = m2 := im.eq_of im2 fun p => by simp only [mem_kp_true]; exact And.comm
  have e6 : (rx ++ rm ++ y).length = ru.length := nodup_len (by
    refine List.nodup_append.2 ⟨List.nodup_append.2 ⟨ix.asc.nodup, im.asc.nodup, ?_⟩, iy.asc.nodup, ?_⟩
    · rintro p hp q hq rfl
      rw [ix.mem, mem_kp_false] at hp; rw [im.mem, mem_kp_true] at hq
      exact hp.2 hq.2
    · rintro p hp q hq rfl
      rw [iy.mem, mem_kp_false] at hq
      rw [List.mem_append, ix.mem, im.mem, mem_kp_false, mem_kp_true] at hp
      rcases hp with hp | hp
      · exact hq.2 hp.1
      · exact hq.2 hp.1) iu.asc.nodup (fun p => by
    simp only [List.mem_append, iu.mem, im.mem, ix.mem, iy.mem, mem_kp_true, mem_kp_false]
    by_cases h1 : p ∈ a <;> by_cases h2 : p ∈ b <;> simp [h1, h2])
  simp only [List.length_append] at e6
  rw [hu, hm, hx, hy]
  simp only [Option.bind_some, cond_false]
  rw [app_of (by simp; omega)]
  simp only [Option.bind_some, List.nil_append]
  rw [app_of (by omega)]
  simp only [Option.bind_some]
  rw [hru]
  simp only [Option.bind_some]
  rw [same_eq _ _ (by omega)]
  simp only [Option.bind_some, decide_true, Bool.not_true, cond_false]
  rw [hrm]
  simp only [Option.bind_some]
  rw [same_eq _ _ (by omega)]
  simp only [Option.bind_some, decide_true, Bool.not_true, cond_false]
  rw [hrx]
  simp only [Option.bind_some]
  rw [same_eq _ _ (by omega)]
  simp only [Option.bind_some, decide_true, Bool.not_true, cond_false]
  rw [hxm]
  simp only [Option.bind_some]
  rw [hxmy]
  simp only [Option.bind_some]
  rw [e4, same_eq _ _ (by omega)]
  simp only [Option.bind_some, decide_true, cond_true]
  have hw : w64 (w64 ((rx.length : Int) + (rm.length : Int)) + (y.length : Int)) = (ru.length : Int) := by
    rw [show (rx.length : Int) + (rm.length : Int) = ((rx.length + rm.length : Nat) : Int) by omega, w64_nat (by omega), show ((rx.length + rm.length : Nat) : Int) + (y.length : Int) = ((rx.length + rm.length + y.length : Nat) : Int) by omega, w64_nat (by omega), e6]
  rw [hw, beq_self_eq_true]
  simp only [cond_true]
  rw [hm2]
  simp only [Option.bind_some]
  rw [← e5, same_eq _ _ (by omega)]
  simp
theorem laws_true (a b c : List TPoint) : apostillelaw11_NodesLaws a b c = some true := by
  unfold apostillelaw11_NodesLaws
  rw [awake_true]
  simp only [Option.bind_some, Bool.not_true, cond_false]
  by_cases ha : a.length > 25
  · rw [show decide ((a.length : Int) > 25) = true by simp; omega]; rfl
  rw [show decide ((a.length : Int) > 25) = false by simp; omega]
  simp only [cond_false]
  by_cases hb : b.length > 25
  · rw [show decide ((b.length : Int) > 25) = true by simp; omega]; rfl
  rw [show decide ((b.length : Int) > 25) = false by simp; omega]
  simp only [cond_false]
  by_cases hc : c.length > 25
  · rw [show decide ((c.length : Int) > 25) = true by simp; omega]; rfl
  rw [show decide ((c.length : Int) > 25) = false by simp; omega]
  have len {l s : List TPoint} {n : Nat} (h : IsSet l s) (hl : l.length ≤ n) : s.length ≤ n := Nat.le_trans h.length_le hl
  obtain ⟨uab, h1, i1⟩ := union_eq a b (by omega)
  have l1 := len (n := 50) i1 (by rw [List.length_append]; omega)
  obtain ⟨uab_c, h2, i2⟩ := union_eq uab c (by omega)
  have l2 := len (n := 75) i2 (by rw [List.length_append]; omega)
  obtain ⟨ubc, h3, i3⟩ := union_eq b c (by omega)
  have l3 := len (n := 50) i3 (by rw [List.length_append]; omega)
  obtain ⟨ua_bc, h4, i4⟩ := union_eq a ubc (by omega)
  obtain ⟨mab, h5, i5⟩ := meet_eq a b (by omega) (by omega)
  have l5 := len (n := 25) i5 (by have := kp_len a b true; omega)
  obtain ⟨mab_c, h6, i6⟩ := meet_eq mab c (by omega) (by omega)
  have l6 := len (n := 25) i6 (by have := kp_len mab c true; omega)
  obtain ⟨mbc, h7, i7⟩ := meet_eq b c (by omega) (by omega)
  have l7 := len (n := 25) i7 (by have := kp_len b c true; omega)
  obtain ⟨ma_bc, h8, i8⟩ := meet_eq a mbc (by omega) (by omega)
  obtain ⟨ma_u, h9, i9⟩ := meet_eq a ubc (by omega) (by omega)
  have l9 := len (n := 25) i9 (by have := kp_len a ubc true; omega)
  obtain ⟨mac, h10, i10⟩ := meet_eq a c (by omega) (by omega)
  have l10 := len (n := 25) i10 (by have := kp_len a c true; omega)
  obtain ⟨um, h11, i11⟩ := union_eq mab mac (by omega)
  obtain ⟨wa_u, h12, i12⟩ := without_eq a ubc (by omega) (by omega)
  have l12 := len (n := 25) i12 (by have := kp_len a ubc false; omega)
  obtain ⟨wab, h13, i13⟩ := without_eq a b (by omega) (by omega)
  have l13 := len (n := 25) i13 (by have := kp_len a b false; omega)
  obtain ⟨wac, h14, i14⟩ := without_eq a c (by omega) (by omega)
  have l14 := len (n := 25) i14 (by have := kp_len a c false; omega)
  obtain ⟨mw, h15, i15⟩ := meet_eq wab wac (by omega) (by omega)
  have e1 : uab_c = ua_bc := i2.eq_of i4 fun p => by
    simp only [List.mem_append, i1.mem, i3.mem, or_assoc]
  have e2 : mab_c = ma_bc := i6.eq_of i8 fun p => by
    simp only [mem_kp_true, i5.mem, i7.mem, and_assoc]
  have e3 : ma_u = um := i9.eq_of i11 fun p => by
    simp only [mem_kp_true, List.mem_append, i3.mem, i5.mem, i10.mem, and_or_left]
  have e4 : wa_u = mw := i12.eq_of i15 fun p => by
    simp only [mem_kp_true, mem_kp_false, List.mem_append, i3.mem, i13.mem, i14.mem, not_or]
    constructor
    · rintro ⟨q1, q2, q3⟩; exact ⟨⟨q1, q2⟩, q1, q3⟩
    · rintro ⟨⟨q1, q2⟩, _, q3⟩; exact ⟨q1, q2, q3⟩
  subst e1; subst e2; subst e3; subst e4
  simp only [h1, h2, h3, h4, h5, h6, h7, h8, h9, h10, h11, h12, h13, h14, h15, Option.bind_some, cond_false]
  rw [same_eq _ _ (by omega), same_eq _ _ (by omega), same_eq _ _ (by omega), same_eq _ _ (by omega)]
  simp
end G
