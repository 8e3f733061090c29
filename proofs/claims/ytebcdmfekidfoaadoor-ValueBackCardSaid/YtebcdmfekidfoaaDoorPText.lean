/-
  PLAIN LAWS on texts: trimmed, cut, searched. No program, no memory. Conditions: none.
-/
import Derived.Test.YtebcdmfekidfoaaDoorVPure
set_option linter.unusedVariables false
set_option linter.unusedSimpArgs false
namespace G
open W
/-- Short of what a number holds. -/
abbrev Sh {α : Type} (l : List α) : Prop := l.length ≤ 1000000000000
theorem at_nat {α : Type} (l : List α) (n : Nat) : at' l (n : Int) = l[n]? := by simp [at']
theorem at_zero {α : Type} (a : α) (l : List α) : at' (a :: l) 0 = some a := rfl
theorem at_last {α : Type} (l : List α) (a : α) (h : Sh (l ++ [a])) : at' (l ++ [a]) (w64 (((l ++ [a]).length : Int) - 1)) = some a := by
  have h' : (l ++ [a]).length ≤ 1000000000000 := h
  rw [w64_of (by omega)]
  have e : (((l ++ [a]).length : Int) - 1) = ((l.length : Nat) : Int) := by simp
  rw [e, at_nat]
  simp
theorem sub_nat {α : Type} (l : List α) (i j : Nat) (h : i ≤ j) (hj : j ≤ l.length) : sub' l (i : Int) (j : Int) = some ((l.drop i).take (j - i)) := by
  simp [sub', h, hj]
theorem sub_tail {α : Type} (a : α) (l : List α) : sub' (a :: l) 1 (((a :: l).length : Nat) : Int) = some l := by
  have := sub_nat (a :: l) 1 (l.length + 1) (by omega) (by simp)
  rw [show ((1 : Nat) : Int) = 1 from rfl] at this
  rw [show (((a :: l).length : Nat) : Int) = ((l.length + 1 : Nat) : Int) by simp, this]
  simp
theorem sub_init {α : Type} (l : List α) (a : α) (h : Sh (l ++ [a])) : sub' (l ++ [a]) 0 (w64 (((l ++ [a]).length : Int) - 1)) = some l := by
  have h' : (l ++ [a]).length ≤ 1000000000000 := h
  rw [w64_of (by omega)]
  have e : (((l ++ [a]).length : Int) - 1) = ((l.length : Nat) : Int) := by simp
  have := sub_nat (l ++ [a]) 0 l.length (by omega) (by simp)
  rw [show ((0 : Nat) : Int) = 0 from rfl] at this
  rw [e, this]
  simp
theorem sub_all {α : Type} (l : List α) (i : Nat) (h : i ≤ l.length) : sub' l (i : Int) (l.length : Int) = some (l.drop i) := by
  rw [sub_nat l i l.length h (Nat.le_refl _)]
  rw [List.take_of_length_le (by simp)]
/-- Rounds that take the first away as long as it is so. -/
theorem iter_dropWhile {α : Type} {f : List α → Option (List α ⊕ List α)} (p : α → Bool) (h0 : f [] = some (.inr [])) (h1 : ∀ a l, f (a :: l) = some (bif p a then .inl l else .inr (a :: l))) : ∀ l, iter f l = some (l.dropWhile p)
  | [] => by rw [iter_inr h0]; rfl
  | a :: l => by
    cases hp : p a with
    | true => rw [iter_inl (s' := l) (by rw [h1, hp]; rfl), iter_dropWhile p h0 h1 l, List.dropWhile_cons, if_pos hp]
    | false => rw [iter_inr (q := a :: l) (by rw [h1, hp]; rfl), List.dropWhile_cons, if_neg (by simp [hp])]
def trimR {α : Type} (p : α → Bool) (l : List α) : List α := (l.reverse.dropWhile p).reverse
theorem trimR_snoc {α : Type} (p : α → Bool) (l : List α) (a : α) : trimR p (l ++ [a]) = bif p a then trimR p l else l ++ [a] := by
  unfold trimR
  rw [List.reverse_append, List.reverse_singleton, List.singleton_append, List.dropWhile_cons]
  cases p a <;> simp
theorem iter_trimR {α : Type} {f : List α → Option (List α ⊕ List α)} (p : α → Bool) (h0 : f [] = some (.inr [])) (h1 : ∀ l a, Sh (l ++ [a]) → f (l ++ [a]) = some (bif p a then .inl l else .inr (l ++ [a]))) : ∀ (n : Nat) (l : List α), l.length = n → Sh l → iter f l = some (trimR p l)
  | n, l, hn, hs => by
    rcases List.eq_nil_or_concat l with rfl | ⟨m, a, rfl⟩
    · rw [iter_inr h0]; rfl
    · rw [List.concat_eq_append] at *
      rw [trimR_snoc]
      cases n with
      | zero => simp at hn
      | succ n =>
        cases hp : p a with
        | true =>
          rw [iter_inl (s' := m) (by rw [h1 _ _ hs, hp]; rfl)]
          exact iter_trimR p h0 h1 n m (by simpa using hn) (by have : (m ++ [a]).length ≤ _ := hs; simp at this; show m.length ≤ _; omega)
        | false => rw [iter_inr (q := m ++ [a]) (by rw [h1 _ _ hs, hp]; rfl)]; rfl
def blank (c : UInt8) : Bool := c == 32 || c == 9 || c == 10 || c == 13
theorem u8_eq (c : UInt8) (n : Nat) (h : n < 256) : (((c.toNat : Nat) : Int) == (n : Int)) = (c == UInt8.ofNat n) := by
  rw [Bool.eq_iff_iff, beq_iff_eq, beq_iff_eq]
  constructor
  · intro e
    have e : c.toNat = n := by omega
    rw [← e]; simp
  · rintro rfl
    simp; omega
theorem Blank_eq (c : UInt8) : name_Blank c = some (blank c) := by
  unfold name_Blank blank
  rw [show ((32 : Int)) = ((32 : Nat) : Int) from rfl, show ((9 : Int)) = ((9 : Nat) : Int) from rfl, show ((10 : Int)) = ((10 : Nat) : Int) from rfl, show ((13 : Int)) = ((13 : Nat) : Int) from rfl]
  rw [u8_eq c 32 (by omega), u8_eq c 9 (by omega), u8_eq c 10 (by omega), u8_eq c 13 (by omega)]
  rw [show UInt8.ofNat 32 = 32 from rfl, show UInt8.ofNat 9 = 9 from rfl, show UInt8.ofNat 10 = 10 from rfl, show UInt8.ofNat 13 = 13 from rfl]
  cases c == 32 <;> cases c == 9 <;> cases c == 10 <;> rfl
theorem Blank_eq' (c : UInt8) : apostilleref05_Blank c = some (blank c) := Blank_eq c
def trim (s : Str) : Str := trimR blank (s.dropWhile blank)
theorem trimL_le {α : Type} (p : α → Bool) (l : List α) : (l.dropWhile p).length ≤ l.length := (List.dropWhile_sublist p).length_le
theorem Trim_eq (s : Str) (h : Sh s) : name_Trim s = some (trim s) := by
  unfold name_Trim
  rw [iter_dropWhile blank (by rfl) (fun a l => ?_)]
  · simp only [Option.bind_some]
    rw [iter_trimR blank (by rfl) (fun l a hs => ?_) _ _ rfl (Nat.le_trans (trimL_le _ _) h)]
    · rfl
    · unfold name_Trim_b2
      rw [at_last l a hs, sub_init l a hs]
      simp only [Option.bind_some, Blank_eq, show (l ++ [a] == []) = false by simp]
      cases blank a <;> rfl
  · unfold name_Trim_b1
    rw [at_zero, sub_tail]
    simp only [Option.bind_some, Blank_eq, show (a :: l == []) = false by simp]
    cases blank a <;> rfl
/-- A text in front of which and behind which all that is so is left out. -/
theorem trimR_of {α : Type} (p : α → Bool) (u v : List α) (hv : ∀ x ∈ v, p x = true) (hu : u = [] ∨ ∃ w a, u = w ++ [a] ∧ p a = false) : trimR p (u ++ v) = u := by
  have key : ∀ (v : List α), (∀ x ∈ v, p x = true) → trimR p (u ++ v) = trimR p u := by
    intro v hv
    unfold trimR
    rw [List.reverse_append, List.dropWhile_append_of_pos (fun x hx => hv x (List.mem_reverse.1 hx))]
  rw [key v hv]
  rcases hu with rfl | ⟨w, a, rfl, ha⟩
  · rfl
  · rw [trimR_snoc, ha]; rfl
theorem get_some {α : Type} {l : List α} {i : Nat} (h : i < l.length) : l[i]? = some l[i] := List.getElem?_eq_getElem h
theorem RTrim_a (s : Str) (h : Sh s) : ∀ (n i : Nat), n = s.length - i → i ≤ s.length → iter (apostilleref05_Trim_b1 s) (i : Int) = some ((s.length - ((s.drop i).dropWhile blank).length : Nat) : Int)
  | n, i, hn, hi => by
    have h' : s.length ≤ 1000000000000 := h
    by_cases hlt : i < s.length
    · have hd : s.drop i = s[i] :: s.drop (i + 1) := List.drop_eq_getElem_cons hlt
      have hb : apostilleref05_Trim_b1 s (i : Int) = some (bif blank s[i] then .inl ((i + 1 : Nat) : Int) else .inr (i : Int)) := by
        unfold apostilleref05_Trim_b1
        rw [show decide ((i : Int) < (s.length : Int)) = true by simp [hlt], at_nat, get_some hlt]
        simp only [Option.bind_some, Blank_eq', cond_true]
        rw [w64_of (by omega)]
        cases blank s[i] <;> rfl
      rw [hd, List.dropWhile_cons]
      cases hp : blank s[i] with
      | true =>
        cases n with
        | zero => omega
        | succ n => rw [iter_inl (s' := ((i + 1 : Nat) : Int)) (by rw [hb, hp]; rfl), RTrim_a s h n (i + 1) (by omega) (by omega)]; rfl
      | false =>
        rw [iter_inr (q := (i : Int)) (by rw [hb, hp]; rfl)]
        simp; omega
    · have hb : apostilleref05_Trim_b1 s (i : Int) = some (.inr (i : Int)) := by
        unfold apostilleref05_Trim_b1
        rw [show decide ((i : Int) < (s.length : Int)) = false by simp; omega]
        rfl
      rw [iter_inr hb, List.drop_of_length_le (by omega)]
      simp; omega
theorem RTrim_b (s : Str) (h : Sh s) (a : Nat) (ha : a ≤ s.length) : ∀ (n : Nat) (b : Nat), a ≤ b → b ≤ s.length → n = b - a → (∀ x ∈ s.drop b, blank x = true) →
    ∃ b' : Nat, a ≤ b' ∧ b' ≤ s.length ∧ iter (apostilleref05_Trim_b2 s (a : Int)) (b : Int) = some (b' : Int) ∧ (∀ x ∈ s.drop b', blank x = true) ∧ (b' = a ∨ ∃ (hb : b' - 1 < s.length), a < b' ∧ blank s[b' - 1] = false)
  | n, b, hab, hbs, hn, hbl => by
    have h' : s.length ≤ 1000000000000 := h
    by_cases hlt : a < b
    · have hb1 : b - 1 < s.length := by omega
      have hbody : apostilleref05_Trim_b2 s (a : Int) (b : Int) = some (bif blank s[b - 1] then .inl ((b - 1 : Nat) : Int) else .inr (b : Int)) := by
        unfold apostilleref05_Trim_b2
        rw [show decide ((b : Int) > (a : Int)) = true by simp [hlt], w64_of (by omega), show (b : Int) - 1 = ((b - 1 : Nat) : Int) by omega, at_nat, get_some hb1]
        simp only [Option.bind_some, Blank_eq', cond_true]
        cases blank s[b - 1] <;> rfl
      cases hp : blank s[b - 1] with
      | true =>
        cases n with
        | zero => omega
        | succ n =>
          rw [iter_inl (s' := ((b - 1 : Nat) : Int)) (by rw [hbody, hp]; rfl)]
          exact RTrim_b s h a ha n (b - 1) (by omega) (by omega) (by omega) (fun x hx => by
            rw [List.drop_eq_getElem_cons hb1, show b - 1 + 1 = b by omega] at hx
            rcases List.mem_cons.1 hx with rfl | hx
            · exact hp
            · exact hbl x hx)
      | false => exact ⟨b, hab, hbs, iter_inr (by rw [hbody, hp]; rfl), hbl, .inr ⟨hb1, hlt, hp⟩⟩
    · have hbody : apostilleref05_Trim_b2 s (a : Int) (b : Int) = some (.inr (b : Int)) := by
        unfold apostilleref05_Trim_b2
        rw [show decide ((b : Int) > (a : Int)) = false by simp; omega]
        rfl
      exact ⟨b, hab, hbs, iter_inr hbody, hbl, .inl (by omega)⟩
theorem dropWhile_eq_drop {α : Type} (p : α → Bool) : ∀ s : List α, s.dropWhile p = s.drop (s.length - (s.dropWhile p).length)
  | [] => rfl
  | a :: s => by
    rw [List.dropWhile_cons]
    cases hp : p a with
    | true =>
      have := dropWhile_eq_drop p s
      have hl := trimL_le p s
      simp only [if_true, List.length_cons]
      rw [show s.length + 1 - (s.dropWhile p).length = (s.length - (s.dropWhile p).length) + 1 by omega, List.drop_succ_cons]
      exact this
    | false => simp
theorem RTrim_eq (s : Str) (h : Sh s) : apostilleref05_Trim s = some (trim s) := by
  unfold apostilleref05_Trim
  have h1 := RTrim_a s h s.length 0 (by omega) (by omega)
  rw [show ((0 : Nat) : Int) = 0 from rfl] at h1
  rw [h1]
  simp only [Option.bind_some, List.drop_zero]
  have hl := trimL_le blank s
  have hd := dropWhile_eq_drop blank s
  generalize ha : s.length - (s.dropWhile blank).length = a at *
  obtain ⟨b, hab, hbs, hit, hbl, hend⟩ := RTrim_b s h a (by omega) (s.length - a) s.length (by omega) (Nat.le_refl _) rfl (by simp)
  rw [hit]
  simp only [Option.bind_some]
  rw [sub_nat s a b hab hbs]
  unfold trim
  rw [hd]
  have e : s.drop a = (s.drop a).take (b - a) ++ s.drop b := by
    have := (List.take_append_drop (b - a) (s.drop a)).symm
    rw [List.drop_drop, show a + (b - a) = b by omega] at this
    exact this
  refine congrArg some ((congrArg (trimR blank) e).trans (trimR_of blank _ _ hbl ?_)).symm
  rcases hend with rfl | ⟨hb, hlt, hf⟩
  · left; simp
  · right
    refine ⟨(s.drop a).take (b - 1 - a), s[b - 1], ?_, hf⟩
    have e2 : b - a = (b - 1 - a) + 1 := by omega
    rw [e2, List.take_add_one, List.getElem?_drop, show a + (b - 1 - a) = b - 1 by omega, get_some hb]
    rfl
/-! ### Cut -/
theorem indexByte_cases (c : UInt8) : ∀ l : Str, (indexByte l c = -1 ∧ c ∉ l) ∨ ∃ u v, l = u ++ c :: v ∧ c ∉ u ∧ indexByte l c = (u.length : Int)
  | [] => .inl ⟨rfl, by simp⟩
  | a :: l => by
    by_cases h : a = c
    · subst h; exact .inr ⟨[], l, rfl, by simp, by simp [indexByte]⟩
    · have hb : (a == c) = false := by simpa using h
      rcases indexByte_cases c l with ⟨h1, h2⟩ | ⟨u, v, h1, h2, h3⟩
      · exact .inl ⟨by simp [indexByte, hb, h1], by simp [h2, Ne.symm h]⟩
      · refine .inr ⟨a :: u, v, by rw [h1]; rfl, by simp [h2, Ne.symm h], ?_⟩
        simp only [indexByte, hb, h3, cond_false]
        have : ((u.length : Int) == -1) = false := by rw [Bool.eq_false_iff]; simp
        simp [this]
theorem Index_one (s : Str) (c : UInt8) : stringslite_Index s [c] = some (indexByte s c) := by
  unfold stringslite_Index
  simp only [List.length_singleton, show (((1 : Nat) : Int) == 0) = false from rfl, cond_false, Option.bind_some]
  cases h : ([c] == s) with
  | true =>
    have : s = [c] := (by simpa using h : [c] = s).symm
    subst this
    simp [indexByte]
  | false =>
    rw [show (((1 : Nat) : Int) == 1) = true from rfl]
    simp only [cond_false, cond_true, at_zero, Option.bind_some, stringslite_IndexByte]
theorem Cut_none (s : Str) (c : UInt8) (h : c ∉ s) : strings_Cut s [c] = some (s, [], false) := by
  unfold strings_Cut stringslite_Cut
  rw [Index_one]
  rcases indexByte_cases c s with ⟨h1, _⟩ | ⟨u, v, h1, _, _⟩
  · rw [h1]; rfl
  · exact absurd (by rw [h1]; simp) h
theorem Cut_some (u v : Str) (c : UInt8) (hc : c ∉ u) (h : Sh (u ++ c :: v)) : strings_Cut (u ++ c :: v) [c] = some (u, v, true) := by
  have h' : (u ++ c :: v).length ≤ 1000000000000 := h
  unfold strings_Cut stringslite_Cut
  rw [Index_one]
  rcases indexByte_cases c (u ++ c :: v) with ⟨_, h1⟩ | ⟨u', v', h1, h2, h3⟩
  · exact absurd (by simp) h1
  · have hu : u' = u ∧ v' = v := by
      have key : ∀ (u u' : Str), c ∉ u → c ∉ u' → u ++ c :: v = u' ++ c :: v' → u' = u ∧ v' = v := by
        intro u
        induction u with
        | nil =>
          intro u' _ h2 e
          cases u' with
          | nil => simp at e; exact ⟨rfl, e.symm⟩
          | cons a u' => simp at e h2; exact absurd e.1 h2.1
        | cons b u ih =>
          intro u' h1 h2 e
          cases u' with
          | nil => simp at e h1; exact absurd e.1.symm h1.1
          | cons a u' =>
            simp at e h1 h2
            obtain ⟨h3, h4⟩ := ih u' h1.2 h2.2 e.2
            exact ⟨by rw [h3, e.1], h4⟩
      exact key u u' hc h2 h1
    obtain ⟨rfl, rfl⟩ := hu
    rw [h3]
    simp only [Option.bind_some, show decide ((u'.length : Int) ≥ 0) = true by simp, cond_true, List.length_singleton]
    have e1 : sub' (u' ++ c :: v') 0 (u'.length : Int) = some u' := by
      have := sub_nat (u' ++ c :: v') 0 u'.length (by omega) (by simp)
      simpa using this
    rw [e1, w64_of (by simp at h'; omega), show (u'.length : Int) + ((1 : Nat) : Int) = ((u'.length + 1 : Nat) : Int) by simp, sub_all _ _ (by simp)]
    simp
def cut1 (c : UInt8) : Str → Str × Bool
  | a :: r => if a = c then (r, true) else (a :: r, false)
  | [] => ([], false)
theorem CutPrefix_one (s : Str) (c : UInt8) : strings_CutPrefix s [c] = some (cut1 c s) := by
  unfold cut1 strings_CutPrefix stringslite_CutPrefix stringslite_HasPrefix
  cases s with
  | nil => rfl
  | cons a r =>
    have e1 : sub' (a :: r) 0 ((([c] : Str).length : Nat) : Int) = some [a] := by
      have := sub_nat (a :: r) 0 1 (by omega) (by simp)
      simpa using this
    have e2 : sub' (a :: r) ((([c] : Str).length : Nat) : Int) (((a :: r).length : Nat) : Int) = some r := sub_tail a r
    have e0 : decide ((((a :: r).length : Nat) : Int) ≥ ((([c] : Str).length : Nat) : Int)) = true := by simp; omega
    rw [e0, e1, e2]
    by_cases h : a = c
    · subst h; simp
    · have hb : (a == c) = false := by simpa using h
      simp [h, hb]
end G
