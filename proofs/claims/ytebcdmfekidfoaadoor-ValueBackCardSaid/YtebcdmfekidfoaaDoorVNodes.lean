/-
  PLAIN LAWS OF SETS OF POINTS: what the printed functions of nodes answer. No program, no memory. Conditions: fewer than 2^40 points.
-/
import Derived.Test.YtebcdmfekidfoaaDoorAbsPureS
import Derived.Test.YtebcdmfekidfoaaDoorVPure
set_option linter.unusedVariables false
set_option linter.unusedSimpArgs false
namespace G
open W
/-- Points in order. -/
def plt (a b : TPoint) : Bool := decide (a.N < b.N ∨ (a.N = b.N ∧ (a.Part < b.Part ∨ (a.Part = b.Part ∧ a.I < b.I))))
def cI (x y : Int) : Int := if x < y then -1 else if x > y then 1 else 0
def pcmp (a b : TPoint) : Int := if cI a.N b.N ≠ 0 then cI a.N b.N else if cI a.Part b.Part ≠ 0 then cI a.Part b.Part else cI a.I b.I
theorem TPoint.ext' {a b : TPoint} (h1 : a.N = b.N) (h2 : a.Part = b.Part) (h3 : a.I = b.I) : a = b := by
  cases a; cases b; simp_all
theorem eqb_iff (a b : TPoint) : TPoint.eqb a b = true ↔ a = b := by
  unfold TPoint.eqb TPoint.ints
  constructor
  · intro h
    simp at h
    exact TPoint.ext' h.1 h.2.1 h.2.2
  · rintro rfl; simp
theorem eqb_self (a : TPoint) : TPoint.eqb a a = true := (eqb_iff a a).2 rfl
theorem eqb_dec (a b : TPoint) [Decidable (a = b)] : TPoint.eqb a b = decide (a = b) := by
  by_cases h : a = b
  · simp [h, eqb_self]
  · have : TPoint.eqb a b ≠ true := fun h' => h ((eqb_iff a b).1 h')
    simp [h, this]
instance : DecidableEq TPoint := fun a b => decidable_of_iff _ (eqb_iff a b)
theorem compare_int (x y : Int) : cmp_Compare_int x y = some (cI x y) := by
  unfold cmp_Compare_int cmp_isNaN_int cI
  simp only [bne_self_eq_false, Option.bind_some, cond_false]
  by_cases h1 : x < y
  · simp [h1]
  · by_cases h2 : x > y <;> simp [h1, h2]
theorem or_int (x y z : Int) : cmp_Or_int [x, y, z] = some (if x ≠ 0 then x else if y ≠ 0 then y else z) := by
  unfold cmp_Or_int
  have b1 : ∀ i : Nat, ∀ h : i < 3, cmp_Or_int_b1 [x, y, z] (i : Int) = if [x, y, z][i] ≠ 0 then some (.inr (Sum.inl [x, y, z][i])) else some (.inl ((i + 1 : Nat) : Int)) := fun i hi => by
    unfold cmp_Or_int_b1
    rw [show decide ((i : Int) < (([x, y, z].length : Nat) : Int)) = true by simp; omega]
    simp only [cond_true]
    rw [at_of (show i < [x, y, z].length from hi)]
    simp only [Option.bind_some]
    rw [w64_add1 (by omega)]
    by_cases h0 : [x, y, z][i] = 0
    · simp [h0]
    · rw [show ([x, y, z][i] != 0) = true by simpa using h0]; simp [h0]
  have b3 : cmp_Or_int_b1 [x, y, z] ((3 : Nat) : Int) = some (.inr (Sum.inr ())) := by unfold cmp_Or_int_b1; rfl
  show (iter (cmp_Or_int_b1 [x, y, z]) ((0 : Nat) : Int)).bind _ = _
  by_cases hx : x = 0
  · rw [iter_inl (s' := ((1 : Nat) : Int)) (by rw [b1 0 (by omega)]; simp [hx])]
    by_cases hy : y = 0
    · rw [iter_inl (s' := ((2 : Nat) : Int)) (by rw [b1 1 (by omega)]; simp [hy])]
      by_cases hz : z = 0
      · rw [iter_inl (s' := ((3 : Nat) : Int)) (by rw [b1 2 (by omega)]; simp [hz]), iter_inr b3]; simp [hx, hy, hz]
      · rw [iter_inr (q := Sum.inl z) (by rw [b1 2 (by omega)]; simp [hz])]; simp [hx, hy]
    · rw [iter_inr (q := Sum.inl y) (by rw [b1 1 (by omega)]; simp [hy])]; simp [hx, hy]
  · rw [iter_inr (q := Sum.inl x) (by rw [b1 0 (by omega)]; simp [hx])]; simp [hx]
theorem compare_eq (a b : TPoint) : point_Compare a b = some (pcmp a b) := by
  unfold point_Compare pcmp
  simp only [compare_int, Option.bind_some, or_int]
theorem cI_lt (x y : Int) : cI x y < 0 ↔ x < y := by
  unfold cI
  split
  · rename_i h; simp [h]
  · rename_i h
    split
    · simp [h]
    · simp [h]
theorem cI_zero (x y : Int) : cI x y = 0 ↔ x = y := by
  unfold cI
  split
  · simp; omega
  · split
    · simp; omega
    · simp; omega
theorem pcmp_lt (a b : TPoint) : pcmp a b < 0 ↔ plt a b = true := by
  unfold pcmp plt
  simp only [decide_eq_true_eq, ne_eq, cI_zero]
  split
  · rename_i h; rw [cI_lt]; omega
  · rename_i h
    split
    · rename_i h2; rw [cI_lt]; omega
    · rename_i h2; rw [cI_lt]; omega
theorem plt_irrefl (a : TPoint) : plt a a = false := by simp [plt]
theorem plt_trans {a b c : TPoint} (h : plt a b = true) (h' : plt b c = true) : plt a c = true := by
  simp only [plt, decide_eq_true_eq] at *; omega
theorem plt_total {a b : TPoint} (h : plt a b = false) (h' : plt b a = false) : a = b := by
  simp only [plt, decide_eq_false_iff_not] at *
  exact TPoint.ext' (by omega) (by omega) (by omega)
theorem plt_asymm {a b : TPoint} (h : plt a b = true) : plt b a = false := by
  cases h2 : plt b a with
  | false => rfl
  | true => have := plt_trans h h2; rw [plt_irrefl] at this; cases this
theorem plt_ne {a b : TPoint} (h : plt a b = true) : a ≠ b := by rintro rfl; rw [plt_irrefl] at h; cases h
theorem pcmp_tot : Tot (fun x0 x1 => point_Compare x0 x1) pcmp where
  val := compare_eq
  irrefl x := by rw [pcmp_lt, plt_irrefl]; simp
  trans x y z h1 h2 := by rw [pcmp_lt] at *; exact plt_trans h1 h2
  ntrans x y z h1 h2 := by
    rw [pcmp_lt] at *
    simp only [plt, decide_eq_true_eq] at *; omega
  anti x y h1 h2 := by
    rw [pcmp_lt] at h1 h2
    exact plt_total (by simpa using h1) (by simpa using h2)
/-- Strictly in order. -/
def Asc (l : List TPoint) : Prop := l.Pairwise fun a b => plt a b = true
instance (l : List TPoint) : Decidable (Asc l) := by unfold Asc; infer_instance
theorem Asc.tail {a : TPoint} {l : List TPoint} (h : Asc (a :: l)) : Asc l := (List.pairwise_cons.1 h).2
theorem Asc.nodup {l : List TPoint} (h : Asc l) : l.Nodup := h.imp fun h => plt_ne h
theorem asc_ext : ∀ {l m : List TPoint}, Asc l → Asc m → (∀ p, p ∈ l ↔ p ∈ m) → l = m
  | [], [], _, _, _ => rfl
  | [], b :: m, _, _, h => by have := (h b).2 (by simp); simp at this
  | a :: l, [], _, _, h => by have := (h a).1 (by simp); simp at this
  | a :: l, b :: m, hl, hm, h => by
    have hl' := List.pairwise_cons.1 hl
    have hm' := List.pairwise_cons.1 hm
    have hab : a = b := by
      rcases List.mem_cons.1 ((h a).1 (by simp)) with e | e
      · exact e
      · rcases List.mem_cons.1 ((h b).2 (by simp)) with e2 | e2
        · exact e2.symm
        · have h1 := hm'.1 a e
          have h2 := hl'.1 b e2
          rw [plt_asymm h1] at h2; cases h2
    subst hab
    congr 1
    refine asc_ext hl'.2 hm'.2 fun p => ⟨fun hp => ?_, fun hp => ?_⟩
    · rcases List.mem_cons.1 ((h p).1 (List.mem_cons_of_mem _ hp)) with e | e
      · subst e; exact absurd rfl (plt_ne (hl'.1 p hp))
      · exact e
    · rcases List.mem_cons.1 ((h p).2 (List.mem_cons_of_mem _ hp)) with e | e
      · subst e; exact absurd rfl (plt_ne (hm'.1 p hp))
      · exact e
/-- The set of a list. -/
structure IsSet (l s : List TPoint) : Prop where
  asc : Asc s
  mem : ∀ p, p ∈ s ↔ p ∈ l
theorem IsSet.unique {l s s' : List TPoint} (h : IsSet l s) (h' : IsSet l s') : s = s' := asc_ext h.asc h'.asc fun p => by rw [h.mem, h'.mem]
theorem IsSet.eq_of {l l' s s' : List TPoint} (h : IsSet l s) (h' : IsSet l' s') (hm : ∀ p, p ∈ l ↔ p ∈ l') : s = s' := asc_ext h.asc h'.asc fun p => by rw [h.mem, h'.mem, hm]
theorem IsSet.length_le {l s : List TPoint} (h : IsSet l s) : s.length ≤ l.length := by
  exact h.asc.nodup.length_le_of_subset fun p hp => (h.mem p).1 hp
theorem asc_push {m : List TPoint} {x : TPoint} (h : Asc m) (hx : ∀ y, m.getLast? = some y → plt y x = true) : Asc (m ++ [x]) := by
  refine List.pairwise_append.2 ⟨h, by simp, fun a ha b hb => ?_⟩
  simp only [List.mem_singleton] at hb; subst hb
  cases hm : m.getLast? with
  | none => rw [List.getLast?_eq_none_iff.1 hm] at ha; cases ha
  | some y =>
    have hy := hx y hm
    obtain ⟨m', rfl⟩ := List.getLast?_eq_some_iff.1 hm
    rcases List.mem_append.1 ha with h1 | h1
    · exact plt_trans ((List.pairwise_append.1 h).2.2 a h1 y (by simp)) hy
    · simp only [List.mem_singleton] at h1; subst h1; exact hy
theorem take_last {α : Type} {l : List α} {i : Nat} (h : i < l.length) : (l.take (i + 1)).getLast? = some l[i] := by
  rw [List.take_succ_eq_append_getElem h, List.getLast?_concat]
theorem drop_eq_iff {α : Type} {a b : List α} {i : Nat} (h : i < a.length) (h' : i < b.length) : (a.drop i = b.drop i) ↔ (a[i] = b[i] ∧ a.drop (i + 1) = b.drop (i + 1)) := by
  rw [List.drop_eq_getElem_cons h, List.drop_eq_getElem_cons h', List.cons.injEq]
theorem mem_drop_iff {α : Type} {a : List α} {i : Nat} {p : α} (h : i < a.length) : p ∈ a.drop i ↔ p = a[i] ∨ p ∈ a.drop (i + 1) := by
  rw [List.drop_eq_getElem_cons h, List.mem_cons]
theorem same_loop (a b : List TPoint) (hl : a.length = b.length) (hs : a.length < 4611686018427387904) : ∀ (d i : Nat), d = a.length - i → iter (apostilleref10_Same_b1 a b) (i : Int) = some (if a.drop i = b.drop i then .inr () else .inl ())
  | d, i, hd => by
    by_cases hi : i < a.length
    · have hi' : i < b.length := by omega
      have hb : apostilleref10_Same_b1 a b (i : Int) = if a[i] = b[i] then some (.inl ((i + 1 : Nat) : Int)) else some (.inr (Sum.inl ())) := by
        unfold apostilleref10_Same_b1
        rw [show decide ((i : Int) < (a.length : Int)) = true by simp; omega]
        simp only [cond_true]
        rw [at_of hi, at_of hi']
        simp only [Option.bind_some]
        rw [w64_add1 (by omega), eqb_dec]
        by_cases hp : a[i] = b[i] <;> simp [hp]
      simp only [drop_eq_iff hi hi']
      by_cases hp : a[i] = b[i]
      · rw [if_pos hp] at hb
        rw [iter_inl hb]
        match d, hd with
        | d + 1, hd =>
          rw [same_loop a b hl hs d (i + 1) (by omega)]
          simp [hp]
        | 0, hd => omega
      · rw [if_neg hp] at hb
        rw [iter_inr hb]; simp [hp]
    · have hb : apostilleref10_Same_b1 a b (i : Int) = some (.inr (Sum.inr ())) := by
        unfold apostilleref10_Same_b1
        rw [show decide ((i : Int) < (a.length : Int)) = false by simp; omega]; rfl
      rw [iter_inr hb, if_pos]
      rw [List.drop_eq_nil_of_le (by omega), List.drop_eq_nil_of_le (by omega)]
theorem same_eq (a b : List TPoint) (hs : a.length < 4611686018427387904) : apostilleref10_Same a b = some (decide (a = b)) := by
  unfold apostilleref10_Same
  by_cases hl : a.length = b.length
  · rw [show ((a.length : Int) != (b.length : Int)) = false by simp [hl]]
    simp only [cond_false]
    have := same_loop a b hl hs (a.length - 0) 0 rfl
    rw [show (0 : Int) = ((0 : Nat) : Int) from rfl, this]
    by_cases h : a = b <;> simp [h]
  · rw [show ((a.length : Int) != (b.length : Int)) = true by simp; omega]
    simp only [cond_true]
    rw [show decide (a = b) = false by simp; intro h; exact hl (by rw [h])]
end G
