/-
  PLAIN LAWS OF SETS OF POINTS, MORE: the reference's set, those that are kept. No program, no memory. Conditions: fewer than 2^40 points.
-/
import Derived.Test.YtebcdmfekidfoaaDoorVNodes
set_option linter.unusedVariables false
set_option linter.unusedSimpArgs false
namespace G
open W
theorem less_eq (a b : TPoint) : apostilleref10_Less a b = some (plt a b) := by
  unfold apostilleref10_Less plt
  by_cases h1 : a.N = b.N
  · by_cases h2 : a.Part = b.Part
    · simp [h1, h2]
    · rw [show (a.N != b.N) = false by simp [h1], show (a.Part != b.Part) = true by simp [h2]]
      simp [h1, h2]
  · rw [show (a.N != b.N) = true by simp [h1]]
    simp [h1]
theorem of_in {l out : List TPoint} {k : Nat} (hk : k < l.length) (hs : out.length < 4611686018427387904) : ∀ (d i : Nat), d = out.length - i → i ≤ out.length → (∀ j (hj : j < i) (h2 : j < out.length), plt out[j] l[k] = true) →
    ∃ n : Nat, iter (apostilleref11_Of_b2 l ((k : Int), out)) (i : Int) = some (n : Int) ∧ n ≤ out.length ∧ (∀ j (hj : j < n) (h2 : j < out.length), plt out[j] l[k] = true) ∧ ∀ h : n < out.length, plt out[n] l[k] = false
  | d, i, hd, hi0, hA => by
    by_cases hi : i < out.length
    · have hb : apostilleref11_Of_b2 l ((k : Int), out) (i : Int) = if plt out[i] l[k] = true then some (.inl ((i + 1 : Nat) : Int)) else some (.inr (i : Int)) := by
        unfold apostilleref11_Of_b2
        simp only
        rw [show decide ((i : Int) < (out.length : Int)) = true by simp; omega]
        simp only [cond_true]
        rw [at_of hi, at_of hk]
        simp only [Option.bind_some, less_eq]
        rw [w64_add1 (by omega)]
        by_cases hp : plt out[i] l[k] = true <;> simp [hp]
      by_cases hp : plt out[i] l[k] = true
      · rw [if_pos hp] at hb
        rw [iter_inl hb]
        match d, hd with
        | d + 1, hd =>
          refine of_in hk hs d (i + 1) (by omega) (by omega) fun j hj h2 => ?_
          by_cases hji : j = i
          · subst hji; exact hp
          · exact hA j (by omega) h2
        | 0, hd => omega
      · rw [if_neg hp] at hb
        exact ⟨i, iter_inr hb, hi0, hA, fun h => by simpa using hp⟩
    · have hb : apostilleref11_Of_b2 l ((k : Int), out) (i : Int) = some (.inr (i : Int)) := by
        unfold apostilleref11_Of_b2
        simp only
        rw [show decide ((i : Int) < (out.length : Int)) = false by simp; omega]; rfl
      exact ⟨i, iter_inr hb, hi0, hA, fun h => absurd h hi⟩
theorem of_out (l : List TPoint) (hs : l.length < 1099511627776) : ∀ (d k : Nat) (out : List TPoint), d = l.length - k → k ≤ l.length → IsSet (l.take k) out →
    ∃ r, iter (apostilleref11_Of_b1 l) ((k : Int), out) = some r ∧ IsSet l r
  | d, k, out, hd, hk0, hI => by
    by_cases hk : k < l.length
    · have hol : out.length ≤ k := by have := hI.length_le; rw [List.length_take] at this; omega
      obtain ⟨n, h1, h2, h3, h4⟩ := of_in (out := out) hk (by omega) (out.length - 0) 0 rfl (Nat.zero_le _) (fun j hj => by omega)
      match d, hd with
      | 0, hd => omega
      | d + 1, hd =>
      have hstep : ∀ out', IsSet (l.take (k + 1)) out' → apostilleref11_Of_b1 l ((k : Int), out) = some (.inl (((k + 1 : Nat) : Int), out')) → ∃ r, iter (apostilleref11_Of_b1 l) ((k : Int), out) = some r ∧ IsSet l r := fun out' ho hb => by
        rw [iter_inl hb]; exact of_out l hs d (k + 1) out' (by omega) (by omega) ho
      by_cases hin : ∃ h : n < out.length, out[n] = l[k]
      · obtain ⟨hn, he⟩ := hin
        refine hstep out ⟨hI.asc, fun p => ?_⟩ ?_
        · rw [hI.mem, List.take_succ_eq_append_getElem hk, List.mem_append, List.mem_singleton]
          refine ⟨.inl, fun h => h.elim id fun e => ?_⟩
          subst e; rw [← hI.mem, ← he]; exact List.getElem_mem _
        · unfold apostilleref11_Of_b1
          rw [show decide (((k : Int), out).1 < (l.length : Int)) = true by simp; omega]
          simp only [cond_true]
          rw [show (0 : Int) = ((0 : Nat) : Int) from rfl, h1]
          simp only [Option.bind_some]
          rw [show decide ((n : Int) < (out.length : Int)) = true by simp; omega]
          simp only [cond_true]
          rw [at_of hn, at_of hk]
          simp only [Option.bind_some]
          rw [he, eqb_self]
          simp only [cond_true]
          rw [w64_add1 (by omega)]
      · have hlt : ∀ a ∈ out.take n, plt a l[k] = true := fun a ha => by
          obtain ⟨j, hj, rfl⟩ := List.mem_iff_getElem.1 ha
          rw [List.length_take] at hj
          rw [List.getElem_take]; exact h3 j (by omega) (by omega)
        have hgt : ∀ a ∈ out.drop n, plt l[k] a = true := fun a ha => by
          have hn : n < out.length := by
            rcases Nat.lt_or_ge n out.length with h | h
            · exact h
            · rw [List.drop_eq_nil_of_le h] at ha; cases ha
          have hx : plt l[k] out[n] = true := by
            cases hx : plt l[k] out[n] with
            | true => rfl
            | false => exact absurd ⟨hn, plt_total (h4 hn) hx⟩ hin
          have hA := hI.asc
          rw [← List.take_append_drop n out] at hA
          have := (List.pairwise_append.1 hA).2.1
          rw [List.drop_eq_getElem_cons hn] at this ha
          rcases List.mem_cons.1 ha with e | e
          · subst e; exact hx
          · exact plt_trans hx ((List.pairwise_cons.1 this).1 a e)
        have hset : IsSet (l.take (k + 1)) (out.take n ++ [l[k]] ++ out.drop n) := by
          refine ⟨?_, fun p => ?_⟩
          · have hA := hI.asc
            rw [← List.take_append_drop n out] at hA
            have hA := List.pairwise_append.1 hA
            refine List.pairwise_append.2 ⟨List.pairwise_append.2 ⟨hA.1, by simp, fun a ha b hb => ?_⟩, hA.2.1, fun a ha b hb => ?_⟩
            · simp only [List.mem_singleton] at hb; subst hb; exact hlt a ha
            · rcases List.mem_append.1 ha with h | h
              · exact hA.2.2 a h b hb
              · simp only [List.mem_singleton] at h; subst h; exact hgt b hb
          · rw [List.take_succ_eq_append_getElem hk, List.mem_append, List.mem_append, List.mem_append, ← hI.mem]
            have := List.mem_append (a := p) (s := out.take n) (t := out.drop n)
            rw [List.take_append_drop] at this
            rw [this]
            constructor
            · rintro ((h | h) | h)
              · exact .inl (.inl h)
              · exact .inr h
              · exact .inl (.inr h)
            · rintro ((h | h) | h)
              · exact .inl (.inl h)
              · exact .inr h
              · exact .inl (.inr h)
        have hl1 : (out.take n).length = n := by rw [List.length_take]; omega
        have happ : (appp 24 [] out 0 n).bind (fun v14 => (app 24 v14 [l[k]]).bind fun v15 => (appp 24 v15 out n ((out.length : Int).toNat - n)).bind fun v16 => (some (.inl (((k + 1 : Nat) : Int), v16)) : Option ((Int × List TPoint) ⊕ List TPoint))) = some (.inl (((k + 1 : Nat) : Int), out.take n ++ [l[k]] ++ out.drop n)) := by
          unfold appp
          rw [prt_of (by omega)]
          simp only [Option.bind_some, List.drop_zero]
          rw [app_of (by simp; omega)]
          simp only [Option.bind_some, List.nil_append]
          rw [app_of (by simp; omega)]
          simp only [Option.bind_some]
          rw [prt_of (by simp; omega)]
          simp only [Option.bind_some]
          have e : (out.drop n).take ((out.length : Int).toNat - n) = out.drop n := List.take_of_length_le (by simp)
          rw [e, app_of (by simp; omega)]
          rfl
        refine hstep _ hset ?_
        unfold apostilleref11_Of_b1
        rw [show decide (((k : Int), out).1 < (l.length : Int)) = true by simp; omega]
        simp only [cond_true]
        rw [show (0 : Int) = ((0 : Nat) : Int) from rfl, h1]
        simp only [Option.bind_some]
        rw [w64_add1 (by omega)]
        by_cases hn : n < out.length
        · rw [show decide ((n : Int) < (out.length : Int)) = true by simp; omega]
          simp only [cond_true]
          rw [at_of hn, at_of hk]
          simp only [Option.bind_some]
          rw [eqb_dec, show decide (out[n] = l[k]) = false by simp; intro he; exact hin ⟨hn, he⟩]
          simp only [cond_false]
          rw [rng_of (by omega), rng_of (by omega)]
          simp only [Option.bind_some]
          rw [Int.toNat_natCast]
          exact happ
        · rw [show decide ((n : Int) < (out.length : Int)) = false by simp; omega]
          simp only [cond_false]
          rw [at_of hk]
          rw [rng_of (by omega), rng_of (by omega)]
          simp only [Option.bind_some]
          rw [Int.toNat_natCast]
          exact happ
    · have hb : apostilleref11_Of_b1 l ((k : Int), out) = some (.inr out) := by
        unfold apostilleref11_Of_b1
        rw [show decide (((k : Int), out).1 < (l.length : Int)) = false by simp; omega]; rfl
      refine ⟨out, iter_inr hb, ?_⟩
      rwa [List.take_of_length_le (by omega)] at hI
theorem ref_of (l : List TPoint) (hs : l.length < 1099511627776) : ∃ r, apostilleref11_Of l = some r ∧ IsSet l r := by
  obtain ⟨r, h1, h2⟩ := of_out l hs (l.length - 0) 0 [] rfl (Nat.zero_le _) ⟨by simp [Asc], by simp⟩
  refine ⟨r, ?_, h2⟩
  unfold apostilleref11_Of
  rw [show (0 : Int) = ((0 : Nat) : Int) from rfl, h1]; rfl
end G
