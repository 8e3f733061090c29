/-
  SpaceSorts, plain: declarations in order are what the reference says; the list stays. No program, no memory. Conditions: none.
-/
import Derived.Test.YtipbfnjpfmmkfaaGreatDoorOCom
import Derived.Test.YtipbfnjpfmmkfaaGreatDoorOSorted
set_option maxRecDepth 20000
set_option linter.unusedVariables false
set_option linter.unusedSimpArgs false
namespace G
open W
theorem dless_eq (a b : TDecl) : apostilleref09_less a b = some (dlt a b) := by
  unfold apostilleref09_less dlt
  cases a.Prefix == b.Prefix <;> rfl
theorem ref_at (l : List TDecl) (k : Nat) (x : TDecl) (hk : l[k]? = some x) : ∀ (z2 z1 : List TDecl), (z1 ++ z2).length < 4611686018427387904 → Sd dlt (z1 ++ z2) → (∀ u ∈ z1, dlt x u = false) →
    ∃ s : Nat, iter (apostilleref09_Sorted_b2 l ((k : Int), z1 ++ z2)) (z1.length : Int) = some (s : Int) ∧ s ≤ (z1 ++ z2).length ∧ (∀ u ∈ (z1 ++ z2).take s, dlt x u = false) ∧ (∀ v ∈ (z1 ++ z2).drop s, dlt v x = false) := by
  intro z2
  induction z2 with
  | nil =>
    intro z1 hB hs hu
    refine ⟨z1.length, iter_inr ?_, by simp, by simpa using hu, by simp⟩;unfold apostilleref09_Sorted_b2
    have e : decide ((z1.length : Int) < (((z1 ++ [] : List TDecl).length : Nat) : Int)) = false := by simp
    rw [e]; rfl
  | cons c z2 ih =>
    intro z1 hB hs hu
    have e : decide ((z1.length : Int) < (((z1 ++ c :: z2 : List TDecl).length : Nat) : Int)) = true := by simp; omega
    have h1 : at' l (k : Int) = some x := by rw [at'_nat, hk]
    have h2 : at' (z1 ++ c :: z2) (z1.length : Int) = some c := at_mid z1 c z2 rfl rfl
    cases hc : dlt x c with
    | true =>
      refine ⟨z1.length, iter_inr ?_, by simp, by simpa using hu, ?_⟩
      · unfold apostilleref09_Sorted_b2
        simp only [e, cond_true, h1, h2, Option.bind_some, dless_eq, hc, Bool.not_true, cond_false]
      · simp only [List.drop_left]
        exact ge_first cmp_d (Sd_app.1 hs).2.1 (dlt_asym _ _ hc)
    | false =>
      obtain ⟨s, k1, k2, k3, k4⟩ := ih (z1 ++ [c]) (by simpa using hB) (by simpa using hs) (fun u hu' => by
        rcases List.mem_append.1 hu' with h | h
        · exact hu u h
        · obtain rfl := List.mem_singleton.1 h; exact hc)
      simp only [List.append_assoc, List.cons_append, List.nil_append] at k1 k2 k3 k4
      refine ⟨s, ?_, k2, k3, k4⟩
      rw [← k1]
      refine iter_inl ?_;unfold apostilleref09_Sorted_b2
      simp only [e, cond_true, h1, h2, Option.bind_some, dless_eq, hc, Bool.not_false]
      rw [w64_add1 (by simp at hB; omega)]; simp
theorem ref_sorted (l : List TDecl) (hl : l.length < 1099511627776) : ∃ z, apostilleref09_Sorted l = some z ∧ z.Perm l ∧ Sd dlt z := by
  have key : ∀ (y p z : List TDecl), l = p ++ y → z.Perm p → Sd dlt z → ∃ z', iter (apostilleref09_Sorted_b1 l) ((p.length : Int), z) = some z' ∧ z'.Perm l ∧ Sd dlt z' := by
    intro y
    induction y with
    | nil =>
      intro p z hp hz hs
      rw [List.append_nil] at hp; subst hp
      refine ⟨z, iter_inr ?_, hz, hs⟩;unfold apostilleref09_Sorted_b1
      have e : decide ((l.length : Int) < (l.length : Int)) = false := by simp
      simp only [e, cond_false]
    | cons x y ih =>
      intro p z hp hz hs
      have hlen := hz.length_eq
      have hll : l.length = p.length + (y.length + 1) := by rw [hp]; simp
      have hx : l[p.length]? = some x := by rw [hp]; simp
      obtain ⟨s, k1, k2, k3, k4⟩ := ref_at l p.length x hx z [] (by simp; omega) (by simpa using hs) (by simp)
      simp only [List.nil_append, List.length_nil] at k1 k2 k3 k4
      have hz' : (z.take s ++ x :: z.drop s).Perm (p ++ [x]) := by
        have h1 : (z.take s ++ x :: z.drop s).Perm (x :: (z.take s ++ z.drop s)) := List.perm_middle
        rw [List.take_append_drop] at h1
        refine h1.trans ((List.Perm.cons x hz).trans ?_);exact (List.perm_append_comm (l₁ := [x]) (l₂ := p))
      obtain ⟨z', m1, m2, m3⟩ := ih (p ++ [x]) (z.take s ++ x :: z.drop s) (by rw [hp]; simp) hz' (Sd_mid (by rw [List.take_append_drop]; exact hs) k3 k4);refine ⟨z', ?_, m2, m3⟩
      rw [← m1]
      refine iter_inl ?_;unfold apostilleref09_Sorted_b1
      have e : decide ((p.length : Int) < (l.length : Int)) = true := by simp; omega
      simp only [e, cond_true]
      have k1' : iter (apostilleref09_Sorted_b2 l ((p.length : Int), z)) 0 = some (s : Int) := k1
      have r1 : rng (z.length : Int) 0 (s : Int) = some () := rng_of (by omega)
      have r2 : rng (z.length : Int) (s : Int) (z.length : Int) = some () := rng_of (by omega)
      rw [k1']
      have a1 : appp 32 ([] : List TDecl) z 0 s = some (z.take s) := by
        unfold appp
        rw [prt_of (by omega)]
        simp only [Option.bind_some, List.drop_zero]
        rw [app_of (by simp; omega)]; rfl
      have a2 : app 32 (z.take s) [x] = some (z.take s ++ [x]) := app_of (by simp; omega)
      have a3 : appp 32 (z.take s ++ [x]) z s (z.length - s) = some (z.take s ++ x :: z.drop s) := by
        unfold appp
        rw [prt_of (by omega)]
        simp only [Option.bind_some]
        rw [List.take_of_length_le (l := z.drop s) (i := z.length - s) (by simp), app_of (by simp; omega)]; simp
      simp only [Option.bind_some, r1, r2, at'_nat, hx, Int.toNat_natCast, a1, a2, a3]
      rw [w64_add1 (by omega)]; simp
  obtain ⟨z, k1, k2, k3⟩ := key l [] [] rfl (List.Perm.refl _) Sd_nil;refine ⟨z, ?_, k2, k3⟩;unfold apostilleref09_Sorted
  rw [show iter (apostilleref09_Sorted_b1 l) (0, []) = some z from k1]; rfl
theorem deqb_refl (x : TDecl) : TDecl.eqb x x = true := by simp [TDecl.eqb]
theorem same_refl (l : List TDecl) (hl : l.length < 4611686018427387904) : apostilleref09_Same l l = some true := by
  have key : ∀ (m k : Nat), k + m = l.length → iter (apostilleref09_Same_b1 l l) (k : Int) = some (.inr ()) := by
    intro m
    induction m with
    | zero =>
      intro k hk
      refine iter_inr ?_;unfold apostilleref09_Same_b1
      have e : decide ((k : Int) < (l.length : Int)) = false := by simp; omega
      rw [e]; rfl
    | succ m ih =>
      intro k hk
      rw [← ih (k + 1) (by omega)]
      refine iter_inl ?_;unfold apostilleref09_Same_b1
      have e : decide ((k : Int) < (l.length : Int)) = true := by simp; omega
      rw [e]
      simp only [cond_true]
      rw [at_of (by omega)]
      simp only [Option.bind_some, deqb_refl, Bool.not_true, cond_false]
      rw [w64_add1 (by omega)]
  unfold apostilleref09_Same
  have e : ((l.length : Int) != (l.length : Int)) = false := by simp
  rw [e]
  simp only [cond_false]
  rw [show (0 : Int) = ((0 : Nat) : Int) from rfl, key l.length 0 (by omega)]; rfl
theorem SpaceSorts_eq (l : List TDecl) : apostillelaw09_SpaceSorts l = some true := by
  unfold apostillelaw09_SpaceSorts
  rw [awake09_eq]
  simp only [Option.bind_some, Bool.not_true, cond_false]
  by_cases hl : (l.length : Int) > 60
  · rw [show decide ((l.length : Int) > 60) = true by simp; omega]; rfl
  · rw [show decide ((l.length : Int) > 60) = false by simp; omega]
    obtain ⟨z, k1, k2, k3⟩ := sorted_ok l (by omega);obtain ⟨y, m1, m2, m3⟩ := ref_sorted l (by omega);obtain rfl := sd_unique z y (k2.trans m2.symm) k3 m3
    have hz := k2.length_eq
    simp only [cond_false]
    rw [app_of (by simp; omega), k1, m1]
    simp only [Option.bind_some, List.nil_append]
    rw [same_refl z (by omega), same_refl l (by omega)]; rfl
end G
