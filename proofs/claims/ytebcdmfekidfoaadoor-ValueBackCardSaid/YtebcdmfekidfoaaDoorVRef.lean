/-
  PLAIN LAWS: the document's reading of a number is the same. No program, no memory. Conditions: none.
-/
import Derived.Test.YtebcdmfekidfoaaDoorVRead
set_option linter.unusedVariables false
set_option linter.unusedSimpArgs false
namespace G
open W
/-- How many characters are numbers' or points, how many points, what is behind them, what is beyond. -/
structure RS where
  n : Int
  many : Nat
  points : Nat
  part : Bool
  beyond : Bool
def rf : Str → RS → Option RS
  | [], s => some s
  | c :: l, s =>
    if c = 46 then rf l { s with points := s.points + 1 }
    else if isD c = false then none
    else if 0 < s.points then rf l { s with many := s.many + 1, part := s.part || c != 48 }
    else rf l { s with n := if s.beyond then s.n else s.n * 10 + dv c, many := s.many + 1, beyond := decide (most < if s.beyond then s.n else s.n * 10 + dv c) }
def okR (s : RS) : Prop := 0 ≤ s.n ∧ (s.beyond = false → s.n ≤ most) ∧ s.n ≤ most * 10 + 9
abbrev RT := Int × Int × Int × Int × Bool × Bool
def stR (at_ : Nat) (s : RS) : RT := ((at_ : Int), s.n, (s.many : Int), (s.points : Int), s.part, s.beyond)
abbrev RO := (Int × (List TPoint) × Bool × Int × Bool × Str) ⊕ (Int × Int × Int × Bool × Bool)
def outR : Option RS → RO
  | none => .inl (2, [], false, 0, true, [])
  | some s => .inr (s.n, (s.many : Int), (s.points : Int), s.part, s.beyond)
theorem gt57 (c : UInt8) : ((bif (decide ((c.toNat : Int) < 48)) then some true else some (decide ((c.toNat : Int) > 57))) : Option Bool) = some (!isD c) := by
  unfold isD
  by_cases h : c.toNat < 48
  · rw [show decide ((c.toNat : Int) < 48) = true by simp; omega, show decide (48 ≤ c.toNat) = false by simp; omega]; rfl
  · rw [show decide ((c.toNat : Int) < 48) = false by simp; omega, show decide (48 ≤ c.toNat) = true by simp; omega]
    simp only [cond_false, Bool.true_and, Option.some.injEq]
    rw [Bool.eq_iff_iff]; simp; omega
theorem RRead_loop (v : Str) (hv : Sh v) : ∀ (k i : Nat) (s : RS), k = v.length - i → i ≤ v.length → okR s → s.many ≤ i → s.points ≤ i → iter (apostilleref16_Read_b1 v) (stR i s) = some (outR (rf (v.drop i) s))
  | k, i, s, hk, hi, ho, hm, hp => by
    have hv' : v.length ≤ 1000000000000 := hv
    by_cases hlt : i < v.length
    · rw [List.drop_eq_getElem_cons hlt]
      cases k with
      | zero => omega
      | succ k =>
        have e0 : decide ((i : Int) < (v.length : Int)) = true := by simp [hlt]
        have e1 : at' v (i : Int) = some v[i] := by rw [at_nat, get_some hlt]
        have ew : w64 ((i : Int) + 1) = ((i + 1 : Nat) : Int) := w64_of (by omega)
        by_cases hc : v[i] = 46
        · have hbody : apostilleref16_Read_b1 v (stR i s) = some (.inl (stR (i + 1) { s with points := s.points + 1 })) := by
            unfold apostilleref16_Read_b1 stR
            simp only [e0, e1, cond_true, Option.bind_some, hc, show ((((46 : UInt8).toNat : Nat) : Int) == 46) = true from by decide, ew]
            rw [w64_of (n := (s.points : Int) + 1) (by omega)]
            rfl
          rw [iter_inl hbody, rf, if_pos hc]
          exact RRead_loop v hv k (i + 1) _ (by omega) (by omega) ho (by show s.many ≤ _; omega) (by show s.points + 1 ≤ _; omega)
        · have e46 : ((v[i].toNat : Int) == 46) = false := by
            have := u8_eq v[i] 46 (by omega)
            rw [show ((46 : Nat) : Int) = 46 from rfl] at this
            rw [this]; simpa using hc
          rw [rf, if_neg hc]
          cases hd : isD v[i] with
          | false =>
            have hbody : apostilleref16_Read_b1 v (stR i s) = some (.inr (outR none)) := by
              unfold apostilleref16_Read_b1 stR
              simp only [e0, e1, cond_true, Option.bind_some, e46, cond_false, gt57, hd, Bool.not_false, apostilleref16_None]
              rfl
            rw [iter_inr hbody, if_pos rfl]
          | true =>
            rw [if_neg (by simp)]
            have hb := dv_bd hd
            have hmost : most = 9007199254740992 := rfl
            obtain ⟨h0, h1, h2⟩ := ho
            by_cases hpt : 0 < s.points
            · have hpt' : decide ((s.points : Int) > 0) = true := by simp [hpt]
              have hbody : apostilleref16_Read_b1 v (stR i s) = some (.inl (stR (i + 1) { s with many := s.many + 1, part := s.part || v[i] != 48 })) := by
                unfold apostilleref16_Read_b1 stR
                simp only [e0, e1, cond_true, Option.bind_some, e46, cond_false, gt57, hd, Bool.not_true, hpt', ew]
                rw [w64_of (n := (s.many : Int) + 1) (by omega)]
                have e48 : ((v[i].toNat : Int) != 48) = (v[i] != 48) := by
                  have := u8_eq v[i] 48 (by omega)
                  rw [show ((48 : Nat) : Int) = 48 from rfl] at this
                  simp only [bne, this]; rfl
                rw [e48]
                cases s.part <;> rfl
              rw [iter_inl hbody, if_pos hpt]
              exact RRead_loop v hv k (i + 1) _ (by omega) (by omega) ⟨h0, h1, h2⟩ (by show s.many + 1 ≤ _; omega) (by show s.points ≤ _; omega)
            · have hpt' : decide ((s.points : Int) > 0) = false := by simp; omega
              have hbody : apostilleref16_Read_b1 v (stR i s) = some (.inl (stR (i + 1) { s with n := if s.beyond then s.n else s.n * 10 + dv v[i], many := s.many + 1, beyond := decide (most < if s.beyond then s.n else s.n * 10 + dv v[i]) })) := by
                unfold apostilleref16_Read_b1 stR
                simp only [e0, e1, cond_true, Option.bind_some, e46, cond_false, gt57, hd, Bool.not_true, hpt', ew]
                rw [w64_of (n := (s.many : Int) + 1) (by omega), sub48 hd]
                cases hby : s.beyond with
                | true => simp
                | false =>
                  have := h1 hby
                  rw [w64_of (n := s.n * 10) (by omega), w64_of (n := dv v[i]) (by omega), w64_of (n := s.n * 10 + dv v[i]) (by omega)]
                  simp
              rw [iter_inl hbody, if_neg hpt]
              refine RRead_loop v hv k (i + 1) _ (by omega) (by omega) ⟨?_, ?_, ?_⟩ (by show s.many + 1 ≤ _; omega) (by show s.points ≤ _; omega)
              · show 0 ≤ if s.beyond then s.n else s.n * 10 + dv v[i]
                split <;> omega
              · intro hf
                have hf : decide (most < if s.beyond then s.n else s.n * 10 + dv v[i]) = false := hf
                show (if s.beyond then s.n else s.n * 10 + dv v[i]) ≤ most
                simpa using hf
              · show (if s.beyond then s.n else s.n * 10 + dv v[i]) ≤ most * 10 + 9
                cases hby : s.beyond with
                | true => simpa using h2
                | false => have := h1 hby; simp; omega
    · have hbody : apostilleref16_Read_b1 v (stR i s) = some (.inr (outR (some s))) := by
        unfold apostilleref16_Read_b1 stR
        simp only [show decide ((i : Int) < (v.length : Int)) = false by simp; omega, cond_false]
        rfl
      rw [iter_inr hbody, List.drop_of_length_le (by omega)]
      rfl
/-! ### What the rounds come to -/
theorem rf_digits : ∀ (l : Str) (s : RS) (m : Int), l.all isD = true → s.points = 0 → 0 ≤ m → m ≤ most + 1 → (s.beyond = false → s.n = m ∧ m ≤ most) → (s.beyond = true → m = most + 1 ∧ most < s.n) →
    ∃ s', (∀ r, rf (l ++ r) s = rf r s') ∧ s'.points = 0 ∧ s'.many = s.many + l.length ∧ s'.part = s.part ∧ (s'.beyond = false → s'.n = val m l ∧ val m l ≤ most) ∧ (s'.beyond = true → val m l = most + 1)
  | [], s, m, _, h0, _, _, h1, h2 => ⟨s, fun r => rfl, h0, by simp, rfl, h1, fun h => (h2 h).1⟩
  | c :: l, s, m, hd, h0, hm0, hm1, h1, h2 => by
    simp only [List.all_cons, Bool.and_eq_true] at hd
    have hb := dv_bd hd.1
    have hc : c ≠ 46 := by rintro rfl; exact absurd hd.1 (by decide)
    have hmost : most = 9007199254740992 := rfl
    have hm : 0 ≤ mn (m * 10 + dv c) (most + 1) ∧ mn (m * 10 + dv c) (most + 1) ≤ most + 1 := by unfold mn; split <;> omega
    obtain ⟨s', g1, g2, g3, g4, g5, g6⟩ := rf_digits l { s with n := if s.beyond then s.n else s.n * 10 + dv c, many := s.many + 1, beyond := decide (most < if s.beyond then s.n else s.n * 10 + dv c) } (mn (m * 10 + dv c) (most + 1)) hd.2 h0 hm.1 hm.2 (by
        intro hf
        have hf : decide (most < if s.beyond then s.n else s.n * 10 + dv c) = false := hf
        show (if s.beyond then s.n else s.n * 10 + dv c) = _ ∧ _
        cases hby : s.beyond with
        | true =>
          rw [hby] at hf
          have := (h2 hby).2
          simp at hf; omega
        | false =>
          rw [hby] at hf
          obtain ⟨e1, e2⟩ := h1 hby
          simp at hf
          unfold mn
          simp only [Bool.false_eq_true, if_false]
          rw [e1] at hf ⊢
          rw [if_neg (by omega)]
          exact ⟨rfl, hf⟩) (by
        intro hf
        have hf : decide (most < if s.beyond then s.n else s.n * 10 + dv c) = true := hf
        cases hby : s.beyond with
        | true =>
          obtain ⟨e1, e2⟩ := h2 hby
          refine ⟨by unfold mn; rw [if_pos (by omega)], ?_⟩
          simpa using e2
        | false =>
          rw [hby] at hf
          obtain ⟨e1, e2⟩ := h1 hby
          simp at hf
          rw [e1] at hf
          refine ⟨by unfold mn; split <;> omega, ?_⟩
          simpa [e1] using hf)
    refine ⟨s', fun r => ?_, g2, by rw [g3]; simp; omega, g4, g5, g6⟩
    rw [List.cons_append, rf, if_neg hc, if_neg (by simp [hd.1]), if_neg (by omega)]
    exact g1 r
theorem rf_bad : ∀ (l : Str) (s : RS), 46 ∉ l → l.all isD = false → ∀ r, rf (l ++ r) s = none
  | [], s, _, h, r => by simp at h
  | c :: l, s, hd, h, r => by
    simp only [List.mem_cons, not_or] at hd
    rw [List.cons_append, rf, if_neg (Ne.symm hd.1)]
    cases hc : isD c with
    | false => rw [if_pos rfl]
    | true =>
      rw [if_neg (by simp)]
      have hl : l.all isD = false := by simpa [hc] using h
      split
      · exact rf_bad l _ hd.2 hl r
      · exact rf_bad l _ hd.2 hl r
theorem rf_behind : ∀ (l : Str) (s : RS), 0 < s.points → (l.all isD = true → rf l s = some { s with many := s.many + l.length, part := s.part || !l.all (fun x => x == 48) }) ∧ (l.all isD = false → rf l s = none ∨ ∃ s', rf l s = some s' ∧ s.points < s'.points)
  | [], s, hp => ⟨fun _ => by simp [rf], fun h => by simp at h⟩
  | c :: l, s, hp => by
    by_cases hc : c = 46
    · subst hc
      refine ⟨fun h => by simp [isD] at h, fun _ => ?_⟩
      rw [rf, if_pos rfl]
      obtain ⟨h1, h2⟩ := rf_behind l { s with points := s.points + 1 } (by show 0 < s.points + 1; omega)
      cases hl : l.all isD with
      | true => exact .inr ⟨_, h1 hl, by show s.points < s.points + 1; omega⟩
      | false =>
        rcases h2 hl with h | ⟨s', h, h'⟩
        · exact .inl h
        · exact .inr ⟨s', h, by have h' : s.points + 1 < s'.points := h'; omega⟩
    · rw [rf, if_neg hc]
      cases hd : isD c with
      | false => exact ⟨fun h => by simp [hd] at h, fun _ => .inl (by rw [if_pos rfl])⟩
      | true =>
        rw [if_neg (by simp), if_pos hp]
        obtain ⟨h1, h2⟩ := rf_behind l { s with many := s.many + 1, part := s.part || c != 48 } hp
        refine ⟨fun h => ?_, fun h => ?_⟩
        · rw [h1 (by simpa [hd] using h)]
          congr 1
          simp only [RS.mk.injEq, true_and, and_true, List.length_cons, List.all_cons, bne]
          refine ⟨by omega, ?_⟩
          cases s.part <;> cases (c == 48) <;> simp
        · exact h2 (by simpa [hd] using h)
def s0 : RS := ⟨0, 0, 0, false, false⟩
def finR (o : Option RS) (below : Bool) : TValue × Int := match o with
  | none => (noV, 0)
  | some s => if s.many = 0 then (noV, 0) else if 1 < s.points then (noV, 0) else if s.part then (zV, 6) else if s.beyond then (zV, 6) else (numV (if below then -s.n else s.n), 0)
theorem ofN_of {m : Int} (below : Bool) (h0 : 0 ≤ m) (h1 : m ≤ most) : ofN (if below then -m else m) = (numV (if below then -m else m), 0) := by
  have hmost : most = 9007199254740992 := rfl
  unfold ofN
  cases below with
  | true => simp only [if_true]; rw [if_neg (by omega), if_neg (by omega)]
  | false => simp only [Bool.false_eq_true, if_false]; rw [if_neg (by omega), if_neg (by omega)]
theorem ofN_beyond (below : Bool) : ofN (if below then -(most + 1) else most + 1) = (zV, 6) := by cases below <;> rfl
theorem finR_eq (d : Str) (below : Bool) : finR (rf d s0) below = readD d below := by
  have hmost : most = 9007199254740992 := rfl
  unfold readD
  rcases cutDot_cases d with ⟨h1, h2⟩ | ⟨u, v, h1, h2, h3⟩
  · rw [h2]
    cases hd : d.all isD with
    | false =>
      have := rf_bad d s0 h1 hd []
      rw [List.append_nil] at this
      rw [this]; rfl
    | true =>
      obtain ⟨s', g1, g2, g3, g4, g5, g6⟩ := rf_digits d s0 0 hd rfl (by omega) (by omega) (fun _ => ⟨rfl, by omega⟩) (fun h => by cases h)
      have hr := g1 []
      rw [List.append_nil] at hr
      rw [hr]
      have hb := val_bd d 0 hd (by omega) (by omega)
      simp only [finR, rf, g2, g3, g4, s0, Nat.zero_add, Bool.not_true, Bool.false_or, List.all_nil]
      cases d with
      | nil => rfl
      | cons c l =>
        rw [if_neg (by simp), if_neg (by omega)]
        simp only [show ((c :: l : Str) == []) = false from rfl, Bool.false_and, Bool.false_eq_true, if_false]
        cases hby : s'.beyond with
        | true => rw [if_pos rfl, g6 hby, ofN_beyond]
        | false =>
          obtain ⟨e1, e2⟩ := g5 hby
          rw [if_neg (by simp), e1, ofN_of below hb.1 e2]
  · rw [h3]
    cases hu : u.all isD with
    | false => rw [h1, rf_bad u s0 h2 hu]; rfl
    | true =>
      obtain ⟨s', g1, g2, g3, g4, g5, g6⟩ := rf_digits u s0 0 hu rfl (by omega) (by omega) (fun _ => ⟨rfl, by omega⟩) (fun h => by cases h)
      rw [h1, g1, rf, if_pos rfl]
      obtain ⟨k1, k2⟩ := rf_behind v { s' with points := s'.points + 1 } (by show 0 < s'.points + 1; omega)
      cases hv : v.all isD with
      | false =>
        simp only [Bool.not_true, Bool.not_false, Bool.or_true, Bool.true_or, if_true]
        rcases k2 hv with h | ⟨s2, h, h'⟩
        · rw [h]; rfl
        · have h' : s'.points + 1 < s2.points := h'
          rw [h]
          simp only [finR]
          rw [if_pos (show 1 < s2.points by omega)]
          split <;> rfl
      | true =>
        rw [k1 hv]
        have hb := val_bd u 0 hu (by omega) (by omega)
        have hz : s0.many = 0 ∧ s0.part = false := ⟨rfl, rfl⟩
        simp only [finR, g2, g3, g4, hz.1, hz.2, Nat.zero_add, Bool.not_true, Bool.false_or]
        cases huv : (u == []) && (v == []) with
        | true =>
          simp only [Bool.and_eq_true, beq_iff_eq] at huv
          rw [huv.1, huv.2]; rfl
        | false =>
          have hne : ¬ (u.length + v.length = 0) := by
            intro h
            have hu' : u = [] := List.eq_nil_of_length_eq_zero (by omega)
            have hv' : v = [] := List.eq_nil_of_length_eq_zero (by omega)
            rw [hu', hv'] at huv; simp at huv
          rw [if_neg hne, if_neg (by omega)]
          simp only [Bool.false_eq_true, if_false]
          cases hp : v.all (fun x => x == 48) with
          | false => simp
          | true =>
            simp only [Bool.not_true, Bool.false_eq_true, if_false]
            cases hby : s'.beyond with
            | true => rw [if_pos rfl, g6 hby, ofN_beyond]
            | false =>
              obtain ⟨e1, e2⟩ := g5 hby
              rw [if_neg (by simp), e1, ofN_of below hb.1 e2]
theorem rf_ok : ∀ (l : Str) (s s' : RS), okR s → rf l s = some s' → okR s'
  | [], s, s', h, e => by cases e; exact h
  | c :: l, s, s', h, e => by
    have hmost : most = 9007199254740992 := rfl
    rw [rf] at e
    split at e
    · exact rf_ok l { s with points := s.points + 1 } s' h e
    · split at e
      · cases e
      · rename_i hd
        have hd : isD c = true := by simpa using hd
        have hb := dv_bd hd
        obtain ⟨h0, h1, h2⟩ := h
        split at e
        · exact rf_ok l { s with many := s.many + 1, part := s.part || c != 48 } s' ⟨h0, h1, h2⟩ e
        · refine rf_ok l { s with n := if s.beyond then s.n else s.n * 10 + dv c, many := s.many + 1, beyond := decide (most < if s.beyond then s.n else s.n * 10 + dv c) } s' ⟨?_, ?_, ?_⟩ e
          · show 0 ≤ if s.beyond then s.n else s.n * 10 + dv c
            split <;> omega
          · intro hf
            have hf : decide (most < if s.beyond then s.n else s.n * 10 + dv c) = false := hf
            show (if s.beyond then s.n else s.n * 10 + dv c) ≤ most
            simpa using hf
          · show (if s.beyond then s.n else s.n * 10 + dv c) ≤ most * 10 + 9
            cases hby : s.beyond with
            | true => simpa using h2
            | false => have := h1 hby; simp; omega
theorem same_b : apostilleref16_Read_b2 = apostilleref16_Read_b1 := rfl
theorem RRead_eq (s : Str) (h : Sh s) : apostilleref16_Read s = some (readD (signed (trim s)).1 (signed (trim s)).2) := by
  have ht : Sh (trim s) := Nat.le_trans (trim_le s) h
  have ho : okR s0 := ⟨by decide, fun _ => by decide, by decide⟩
  unfold apostilleref16_Read
  rw [RTrim_eq s h]
  simp only [Option.bind_some]
  generalize trim s = t at ht
  have hq : ((bif (!(t == [])) then (at' t 0).bind fun v2 => some ((v2.toNat : Int) == 45) else some false) : Option Bool) = some (signed t).2 := by
    cases t with
    | nil => rfl
    | cons a r =>
      rw [at_zero]
      have := u8_eq a 45 (by omega)
      rw [show ((45 : Nat) : Int) = 45 from rfl] at this
      simp only [show ((a :: r : Str) == []) = false from rfl, Bool.not_false, cond_true, Option.bind_some, this]
      show some (a == UInt8.ofNat 45) = some (if a = 45 then (r, true) else (a :: r, false)).2
      by_cases ha : a = 45
      · subst ha; rfl
      · rw [if_neg ha]; simpa using ha
  rw [hq, same_b]
  simp only [Option.bind_some]
  rw [← finR_eq]
  have fin : ∀ (o : Option RS) (below : Bool), (∀ s', o = some s' → okR s') → (Sum.elim (fun (q8 : Int × (List TPoint) × Bool × Int × Bool × Str) => some ((TValue.mk q8.1 q8.2.1 q8.2.2.1 q8.2.2.2.1 q8.2.2.2.2.1 q8.2.2.2.2.2), (0 : Int))) (fun (q9 : Int × Int × Int × Bool × Bool) => (bif (q9.2.1 == 0) then (apostilleref16_None).bind fun v10 => some (v10, 0) else (bif (decide (q9.2.2.1 > 1)) then (apostilleref16_None).bind fun v11 => some (v11, 0) else (bif q9.2.2.2.1 then some ((TValue.mk 0 [] false 0 false []), 6) else (bif q9.2.2.2.2 then some ((TValue.mk 0 [] false 0 false []), 6) else (bif below then some ((TValue.mk 2 [] false (w64 (0 - q9.1)) false []), 0) else some ((TValue.mk 2 [] false q9.1 false []), 0)))))))) (outR o) = some (finR o below) := by
    intro o below hok
    cases o with
    | none => rfl
    | some s' =>
      obtain ⟨h0, _, h2⟩ := hok s' rfl
      have hmost : most = 9007199254740992 := rfl
      simp only [outR, Sum.elim_inr, finR, apostilleref16_None, Option.bind_some]
      by_cases hm : s'.many = 0
      · rw [hm]; rfl
      · rw [if_neg hm, show (((s'.many : Nat) : Int) == 0) = false by simp [hm]]
        by_cases hp : 1 < s'.points
        · rw [if_pos hp, show decide (((s'.points : Nat) : Int) > 1) = true by simp; omega]; rfl
        · rw [if_neg hp, show decide (((s'.points : Nat) : Int) > 1) = false by simp; omega, w64_of (by omega), show 0 - s'.n = -s'.n by omega]
          cases s'.part <;> cases s'.beyond <;> cases below <;> rfl
  cases hsg : (signed t).2 with
  | true =>
    have hd : (signed t).1 = t.drop 1 ∧ 1 ≤ t.length := by
      cases t with
      | nil => cases hsg
      | cons a r =>
        by_cases ha : a = 45
        · subst ha; exact ⟨rfl, by simp⟩
        · have : (if a = 45 then (r, true) else (a :: r, false)).2 = true := hsg
          rw [if_neg ha] at this; cases this
    have hl := RRead_loop t ht (t.length - 1) 1 s0 rfl hd.2 ho (by decide) (by decide)
    rw [show stR 1 s0 = (1, 0, 0, 0, false, false) from rfl] at hl
    simp only [cond_true]
    rw [hl, hd.1]
    exact fin _ true (fun s' h => rf_ok _ _ _ ho h)
  | false =>
    have hd : (signed t).1 = t := by
      cases t with
      | nil => rfl
      | cons a r =>
        show (if a = 45 then (r, true) else (a :: r, false)).1 = a :: r
        by_cases ha : a = 45
        · subst ha; cases hsg
        · rw [if_neg ha]
    have hl := RRead_loop t ht t.length 0 s0 rfl (by omega) ho (by decide) (by decide)
    rw [show stR 0 s0 = (0, 0, 0, 0, false, false) from rfl, List.drop_zero] at hl
    simp only [cond_false]
    rw [hl, hd]
    exact fin _ false (fun s' h => rf_ok _ _ _ ho h)
/-! ### The law -/
theorem Same0 : apostilleref10_Same [] [] = some true := by
  unfold apostilleref10_Same
  rw [iter_inr (q := .inr ()) (by rfl)]
  rfl
theorem Equal0 : slices_Equal_Point [] [] = some true := by
  unfold slices_Equal_Point
  rw [iter_inr (q := .inr ()) (by rfl)]
  rfl
theorem ofN_set (n : Int) : (ofN n).1.Set = [] := by
  unfold ofN
  split
  · rfl
  · split <;> rfl
theorem readD_set (d : Str) (below : Bool) : (readD d below).1.Set = [] := by
  unfold readD
  split
  · rfl
  · split
    · rfl
    · exact ofN_set _
theorem Same16 (v : TValue) (h : v.Set = []) : apostilleref16_Same v v = some true := by
  unfold apostilleref16_Same
  rw [h, Same0]
  simp
theorem Same_self (v : TValue) (h : v.Set = []) : value_Same v v = some true := by
  unfold value_Same
  rw [h, Equal0]
  simp
theorem awake16 : apostillelaw16_awake = some true := by
  unfold apostillelaw16_awake
  rw [Read_eq _ (by decide), Read_eq _ (by decide)]
  simp only [Option.bind_some]
  have h1 : readD (signed (trim [32, 45, 49, 50, 46, 48, 32])).1 (signed (trim [32, 45, 49, 50, 46, 48, 32])).2 = (numV (-12), 0) := by rfl
  have h2 : readD (signed (trim [49, 46, 53])).1 (signed (trim [49, 46, 53])).2 = (zV, 6) := by rfl
  rw [h1, h2, Same_self _ rfl]
  rfl
theorem ValueReads_eq (s : Str) : apostillelaw16_ValueReads s = some true := by
  unfold apostillelaw16_ValueReads
  rw [awake16]
  simp only [Option.bind_some, Bool.not_true, cond_false]
  by_cases h : 400 < s.length
  · rw [show decide ((s.length : Int) > 400) = true by simp; omega]; rfl
  · have hs : Sh s := by show s.length ≤ _; omega
    rw [show decide ((s.length : Int) > 400) = false by simp; omega, Read_eq s hs, RRead_eq s hs]
    simp only [Option.bind_some, cond_false, beq_self_eq_true, cond_true]
    rw [Same16 _ (readD_set _ _)]; rfl
end G
