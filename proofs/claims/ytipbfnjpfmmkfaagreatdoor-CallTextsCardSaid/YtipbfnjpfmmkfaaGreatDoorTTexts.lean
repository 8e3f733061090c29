/-
  CallTexts, plain: it answers true for all texts (that together are no longer than a text can be). No program, no memory. Conditions: none.
-/
import Derived.Test.YtipbfnjpfmmkfaaGreatDoorTAsc
set_option maxRecDepth 20000
set_option linter.unusedVariables false
set_option linter.unusedSimpArgs false
namespace G
open W Go
def bl (b : UInt8) : Bool := (b.toNat : Int) == 32 || (b.toNat : Int) == 9 || (b.toNat : Int) == 10 || (b.toNat : Int) == 13
def stepw (st : List Str × Str) (b : UInt8) : List Str × Str := bif bl b then (bif st.2.isEmpty then st else (st.1 ++ [st.2], [])) else (st.1, st.2 ++ [b])
def ends (st : List Str × Str) : List Str := bif st.2.isEmpty then st.1 else st.1 ++ [st.2]
def wds (s : Str) : List Str := ends (s.foldl stepw ([], []))
theorem blank_eq (b : UInt8) : name_Blank b = some (bl b) := by
  unfold name_Blank bl
  cases (b.toNat : Int) == 32 <;> cases (b.toNat : Int) == 9 <;> cases (b.toNat : Int) == 10 <;> rfl
theorem word_c (b : UInt8) (hb : b.toNat < 128) : call_words_c1 (b.toNat : Int) = some (bl b) := by
  unfold call_words_c1
  have hu : u8 (b.toNat : Int) = b := u8_ord b
  rw [show decide ((b.toNat : Int) < 128) = true by simp; omega, hu, blank_eq]; rfl
theorem com_neg : ∀ n : Fin 1001, decide (w64 (bxor 64 (-1) ((n.val : Nat) : Int)) < 0) = true := by decide +kernel
def sl (s : Str) (p : TSpan2) : Str := (s.drop p.start.toNat).take (p.end_.toNat - p.start.toNat)
def okp (n : Nat) (p : TSpan2) : Prop := 0 ≤ p.start ∧ p.start ≤ p.end_ ∧ p.end_ ≤ (n : Int)
/-- What the walk over a text knows at a place. -/
def Inv (s : Str) (i : Nat) (st : Int) (acc : List TSpan2) : Prop :=
  (∀ p ∈ acc, okp i p) ∧ acc.length ≤ i ∧ acc.map (sl s) = ((s.take i).foldl stepw ([], [])).1 ∧
  ((st < 0 ∧ ((s.take i).foldl stepw ([], [])).2 = []) ∨ ∃ k : Nat, st = k ∧ k < i ∧ acc.length ≤ k ∧ ((s.take i).foldl stepw ([], [])).2 = (s.drop k).take (i - k))
theorem fold_next (s : Str) (i : Nat) (h : i < s.length) : (s.take (i + 1)).foldl stepw ([], []) = stepw ((s.take i).foldl stepw ([], [])) s[i] := by
  rw [List.take_succ_eq_append_getElem h, List.foldl_append]; rfl
theorem take_ne {s : Str} {k i : Nat} (hk : k < i) (hi : i ≤ s.length) : ((s.drop k).take (i - k)).isEmpty = false := by
  cases h : (s.drop k).take (i - k) with
  | nil => have := congrArg List.length h; simp at this; omega
  | cons _ _ => rfl
theorem spans_eq (s : Str) (h : Asc s) (hl : s.length ≤ 1000) : ∃ st acc, iter (strings_FieldsFunc_b1 s (fun x0 => call_words_c1 x0)) (-1, [], 0) = some (st, acc) ∧ Inv s s.length st acc := by
  have key : ∀ (m i : Nat) (st : Int) (acc : List TSpan2), i + m = s.length → Inv s i st acc → ∃ st' acc', iter (strings_FieldsFunc_b1 s (fun x0 => call_words_c1 x0)) (st, acc, i) = some (st', acc') ∧ Inv s s.length st' acc' := by
    intro m
    induction m with
    | zero =>
      intro i st acc hi hI
      have hi' : i = s.length := by omega
      subst hi'
      refine ⟨st, acc, iter_inr ?_, hI⟩
      unfold strings_FieldsFunc_b1
      simp
    | succ m ih =>
      intro i st acc hi hI
      have hlt : i < s.length := by omega
      have hg := List.getElem?_eq_getElem hlt
      have hb : s[i].toNat < 128 := h _ (List.getElem_mem _)
      have hd : decide (i < s.length) = true := by simpa using hlt
      obtain ⟨h1, h2, h3, h4⟩ := hI
      have hf := fold_next s i hlt
      generalize hq : (s.take i).foldl stepw ([], []) = q at h3 h4 hf
      have hup : ∀ p ∈ acc, okp (i + 1) p := fun p hp => ⟨(h1 p hp).1, (h1 p hp).2.1, by have := (h1 p hp).2.2; omega⟩
      by_cases hbl : bl s[i] = true
      · rcases h4 with ⟨hneg, hcur⟩ | ⟨k, rfl, hk, hak, hcur⟩
        · obtain ⟨st', acc', hr, hI'⟩ := ih (i + 1) st acc (by omega) ⟨hup, by omega, by rw [hf]; simp [stepw, hbl, hcur, h3], Or.inl ⟨hneg, by rw [hf]; simp [stepw, hbl, hcur]⟩⟩
          refine ⟨st', acc', ?_, hI'⟩
          rw [← hr]
          refine iter_inl ?_
          unfold strings_FieldsFunc_b1
          have hge : decide (st ≥ 0) = false := by simp; omega
          simp only [hd, cond_true, dec_asc h hg, word_c _ hb, hbl, Option.bind_some, hge, cond_false]
        · have hne := take_ne (s := s) (k := k) (i := i) hk (by omega)
          have hcom : w64 (bxor 64 (-1) (k : Int)) < 0 := of_decide_eq_true (com_neg ⟨k, by omega⟩)
          have hsl : sl s (TSpan2.mk (k : Int) (i : Int)) = (s.drop k).take (i - k) := rfl
          obtain ⟨st', acc', hr, hI'⟩ := ih (i + 1) (w64 (bxor 64 (-1) (k : Int))) (acc ++ [TSpan2.mk (k : Int) (i : Int)]) (by omega) ⟨fun p hp => by
              rcases List.mem_append.1 hp with hp | hp
              · exact hup p hp
              · obtain rfl := List.mem_singleton.1 hp
                exact ⟨by simp, by simp; omega, by show (i : Int) ≤ ((i + 1 : Nat) : Int); omega⟩, by simp; omega, by rw [hf, List.map_append, h3]; simp [stepw, hbl, hcur, hne, hsl], Or.inl ⟨hcom, by rw [hf]; simp [stepw, hbl, hcur, hne]⟩⟩
          refine ⟨st', acc', ?_, hI'⟩
          rw [← hr]
          refine iter_inl ?_
          unfold strings_FieldsFunc_b1
          have hge : decide ((k : Int) ≥ 0) = true := by simp
          simp only [hd, cond_true, dec_asc h hg, word_c _ hb, hbl, Option.bind_some, hge]
          rw [app_of (by simp; omega)]; rfl
      · simp only [Bool.not_eq_true] at hbl
        rcases h4 with ⟨hneg, hcur⟩ | ⟨k, rfl, hk, hak, hcur⟩
        · obtain ⟨st', acc', hr, hI'⟩ := ih (i + 1) (i : Int) acc (by omega) ⟨hup, by omega, by rw [hf]; simp [stepw, hbl, h3], Or.inr ⟨i, rfl, by omega, h2, by
            rw [hf]; simp only [stepw, hbl, cond_false, hcur, List.nil_append]
            rw [List.drop_eq_getElem_cons hlt, show i + 1 - i = 1 by omega]; rfl⟩⟩
          refine ⟨st', acc', ?_, hI'⟩
          rw [← hr]
          refine iter_inl ?_
          unfold strings_FieldsFunc_b1
          have hlt0 : decide (st < 0) = true := by simpa using hneg
          simp only [hd, cond_true, dec_asc h hg, word_c _ hb, hbl, Option.bind_some, cond_false, hlt0]
        · obtain ⟨st', acc', hr, hI'⟩ := ih (i + 1) (k : Int) acc (by omega) ⟨hup, by omega, by rw [hf]; simp [stepw, hbl, h3], Or.inr ⟨k, rfl, by omega, hak, by
            rw [hf]; simp only [stepw, hbl, cond_false, hcur]
            rw [show i + 1 - k = (i - k) + 1 by omega, List.take_succ_eq_append_getElem (by simp; omega)]
            simp only [List.getElem_drop]
            congr 2
            simp only [show k + (i - k) = i by omega]⟩⟩
          refine ⟨st', acc', ?_, hI'⟩
          rw [← hr]
          refine iter_inl ?_
          unfold strings_FieldsFunc_b1
          have hlt0 : decide ((k : Int) < 0) = false := by simp
          simp only [hd, cond_true, dec_asc h hg, word_c _ hb, hbl, Option.bind_some, cond_false, hlt0]
  exact key s.length 0 (-1) [] (by omega) ⟨fun p hp => (by cases hp), Nat.le_refl _, rfl, Or.inl ⟨by omega, rfl⟩⟩
theorem mk_of {α : Type} (by_ n : Nat) (z : α) (h : (n : Int) * by_ ≤ 281474976710656) (h2 : n ≤ 1000) : W.mk by_ (n : Int) z = some (List.replicate n z) := by
  unfold W.mk
  rw [decide_eq_true (show 0 ≤ (n : Int) ∧ (n : Int) * by_ ≤ 281474976710656 ∧ (n : Int) ≤ 9223372036854775807 from ⟨by omega, h, by omega⟩)]
  rfl
end G
namespace G
open W Go
/-- A list filled from the front. -/
theorem fill_eq {f : Int × List Str → Option ((Int × List Str) ⊕ List Str)} (ws : List Str) (hl : ws.length ≤ 1000)
    (hf : ∀ (i : Nat) (l : List Str) (hi : i < ws.length), l.length = ws.length → f ((i : Int), l) = some (.inl (((i + 1 : Nat) : Int), l.set i ws[i])))
    (hend : ∀ l : List Str, l.length = ws.length → f ((ws.length : Int), l) = some (.inr l)) : iter f (0, List.replicate ws.length []) = some ws := by
  have key : ∀ (m i : Nat) (l : List Str), i + m = ws.length → l.length = ws.length → l.take i = ws.take i → iter f ((i : Int), l) = some ws := by
    intro m
    induction m with
    | zero =>
      intro i l hi hl' ht
      have hi' : i = ws.length := by omega
      subst hi'
      rw [iter_inr (hend l hl')]
      rw [List.take_of_length_le (by omega), List.take_of_length_le (by omega)] at ht
      rw [ht]
    | succ m ih =>
      intro i l hi hl' ht
      have hlt : i < ws.length := by omega
      rw [iter_inl (hf i l hlt hl')]
      refine ih (i + 1) _ (by omega) (by simpa using hl') ?_
      rw [List.take_succ_eq_append_getElem (by simpa [hl'] using hlt), List.take_succ_eq_append_getElem hlt, List.take_set_of_le (Nat.le_refl i), ht]
      simp
  exact key ws.length 0 _ (by omega) (by simp) rfl
theorem part_of (s : Str) (p : TSpan2) (h : okp s.length p) : sub' s p.start p.end_ = some (sl s p) := by
  unfold sub' sl
  rw [decide_eq_true (show 0 ≤ p.start ∧ p.start ≤ p.end_ ∧ p.end_ ≤ (s.length : Int) from h)]; rfl
theorem put_of {α : Type} (l : List α) (i : Nat) (a : α) (h : i < l.length) : put l (i : Int) a = some (l.set i a) := by
  unfold put
  rw [decide_eq_true (show 0 ≤ (i : Int) ∧ (i : Int) < (l.length : Int) by omega)]; rfl
theorem fields_b2 (s : Str) (acc : List TSpan2) (hp : ∀ p ∈ acc, okp s.length p) (hl : acc.length ≤ 1000) : iter (strings_FieldsFunc_b2 s acc) (0, List.replicate acc.length []) = some (acc.map (sl s)) := by
  have := fill_eq (f := strings_FieldsFunc_b2 s acc) (acc.map (sl s)) (by simpa using hl) (fun i l hi hll => by
    have hia : i < acc.length := by simpa using hi
    have hg : acc[i]? = some acc[i] := List.getElem?_eq_getElem hia
    have hlg : l[i]? = some (l[i]'(by simpa [hll] using hia)) := List.getElem?_eq_getElem _
    unfold strings_FieldsFunc_b2
    simp only [show decide ((i : Int) < (acc.length : Int)) = true by simpa using hia, cond_true, at'_nat, hg, hlg, Option.bind_some, part_of s acc[i] (hp _ (List.getElem_mem _)), put_of l i _ (by simpa [hll] using hia), w64_add1 (show i < 9223372036854775807 by omega), List.getElem_map]) (fun l hll => by
    unfold strings_FieldsFunc_b2
    simp)
  simpa using this
theorem fields_b3 (s : Str) (st : Int) (acc : List TSpan2) (hp : ∀ p ∈ acc, okp s.length p) (hl : acc.length ≤ 1000) : iter (strings_FieldsFunc_b3 s (st, acc)) (0, List.replicate acc.length []) = some (acc.map (sl s)) := fields_b2 s acc hp hl
theorem words_eq (s : Str) (h : Asc s) (hl : s.length ≤ 999) : call_words s = some (wds s) := by
  obtain ⟨st, acc, hr, h1, h2, h3, h4⟩ := spans_eq s h (by omega)
  rw [List.take_length] at h3 h4
  unfold call_words strings_FieldsFunc
  rw [hr]
  simp only [Option.bind_some]
  unfold wds
  generalize s.foldl stepw ([], []) = q at h3 h4
  rcases h4 with ⟨hneg, hcur⟩ | ⟨k, rfl, hk, hak, hcur⟩
  · rw [show decide (st ≥ 0) = false by simp; omega, cond_false, mk_of 16 acc.length [] (by omega) (by omega)]
    simp only [Option.bind_some, fields_b3 s st acc h1 (by omega), h3, ends, hcur]
    rfl
  · have hok : ∀ p ∈ acc ++ [TSpan2.mk (k : Int) (s.length : Int)], okp s.length p := fun p hp => by
      rcases List.mem_append.1 hp with hp | hp
      · exact h1 p hp
      · obtain rfl := List.mem_singleton.1 hp
        exact ⟨by simp, by simp; omega, by simp⟩
    rw [show decide ((k : Int) ≥ 0) = true by simp, cond_true, app_of (by simp; omega)]
    simp only [Option.bind_some]
    rw [mk_of 16 (acc ++ [TSpan2.mk (k : Int) (s.length : Int)]).length [] (by simp; omega) (by simp; omega)]
    simp only [Option.bind_some, fields_b2 s _ hok (show (acc ++ [TSpan2.mk (k : Int) (s.length : Int)]).length ≤ 1000 by simp; omega), List.map_append, h3, ends, hcur, take_ne (s := s) hk (Nat.le_refl _)]
    rfl
/-! ### The words' own words -/
def wordly (w : Str) : Prop := w ≠ [] ∧ ∀ b ∈ w, bl b = false
theorem step_word (w : Str) (h : ∀ b ∈ w, bl b = false) (st : List Str × Str) : w.foldl stepw st = (st.1, st.2 ++ w) := by
  induction w generalizing st with
  | nil => simp
  | cons b r ih =>
    rw [List.foldl_cons, show stepw st b = (st.1, st.2 ++ [b]) by simp [stepw, h b (by simp)], ih (fun c hc => h c (by simp [hc]))]
    simp
theorem wds_wordly (s : Str) : ∀ w ∈ wds s, wordly w := by
  have key : ∀ (s : Str) (st : List Str × Str), (∀ w ∈ st.1, wordly w) → (∀ b ∈ st.2, bl b = false) → (∀ w ∈ (s.foldl stepw st).1, wordly w) ∧ ∀ b ∈ (s.foldl stepw st).2, bl b = false := by
    intro s
    induction s with
    | nil => intro st h1 h2; exact ⟨h1, h2⟩
    | cons c r ih =>
      intro st h1 h2
      rw [List.foldl_cons]
      refine ih _ ?_ ?_
      · cases hc : bl c with
        | true =>
          cases he : st.2.isEmpty with
          | true => simpa [stepw, hc, he] using h1
          | false =>
            intro w hw
            simp only [stepw, hc, he, cond_true, cond_false, List.mem_append, List.mem_singleton] at hw
            rcases hw with hw | rfl
            · exact h1 w hw
            · exact ⟨fun e => (by rw [e] at he; cases he), h2⟩
        | false => simpa [stepw, hc] using h1
      · cases hc : bl c with
        | true =>
          cases he : st.2.isEmpty with
          | true => simpa [stepw, hc, he] using h2
          | false => intro b hb; simp [stepw, hc, he] at hb
        | false =>
          intro b hb
          simp only [stepw, hc, cond_false, List.mem_append, List.mem_singleton] at hb
          rcases hb with hb | rfl
          · exact h2 b hb
          · exact hc
  obtain ⟨h1, h2⟩ := key s ([], []) (by simp) (by simp)
  intro w hw
  unfold wds ends at hw
  cases he : (s.foldl stepw ([], [])).2.isEmpty with
  | true => rw [he] at hw; exact h1 w hw
  | false =>
    rw [he] at hw
    rcases List.mem_append.1 hw with hw | hw
    · exact h1 w hw
    · obtain rfl := List.mem_singleton.1 hw
      exact ⟨fun e => (by rw [e] at he; cases he), h2⟩
/-- Words with one blank between. -/
def joined : List Str → Str
  | [] => []
  | [w] => w
  | w :: v :: r => w ++ 32 :: joined (v :: r)
theorem wds_joined : ∀ (l : List Str), (∀ w ∈ l, wordly w) → wds (joined l) = l := by
  have key : ∀ (l : List Str) (acc : List Str), l ≠ [] → (∀ w ∈ l, wordly w) → ends ((joined l).foldl stepw (acc, [])) = acc ++ l := by
    intro l
    induction l with
    | nil => intro acc h; exact absurd rfl h
    | cons w r ih =>
      intro acc _ h
      obtain ⟨hw1, hw2⟩ := h w (by simp)
      have he : w.isEmpty = false := by cases w with | nil => exact absurd rfl hw1 | cons _ _ => rfl
      cases r with
      | nil =>
        show ends (w.foldl stepw (acc, [])) = _
        rw [step_word w hw2]
        simp [ends, he]
      | cons v r =>
        show ends ((w ++ 32 :: joined (v :: r)).foldl stepw (acc, [])) = _
        rw [List.foldl_append, step_word w hw2, List.foldl_cons]
        have hb : bl 32 = true := rfl
        rw [show stepw (acc, [] ++ w) 32 = (acc ++ [w], []) by simp [stepw, hb, he], ih (acc ++ [w]) (by simp) (fun x hx => h x (by simp [hx]))]
        simp
  intro l h
  cases l with
  | nil => rfl
  | cons w r => exact (key (w :: r) [] (by simp) h).trans (by simp)
def tot (l : List Str) : Nat := (l.map List.length).sum
theorem joined_length : ∀ (l : List Str), (joined l).length + 1 = tot l + l.length ∨ l = []
  | [] => Or.inr rfl
  | [w] => Or.inl (by simp [joined, tot])
  | w :: v :: r => Or.inl (by
    rcases joined_length (v :: r) with h | h
    · simp only [joined, tot, List.map_cons, List.sum_cons, List.length_append, List.length_cons] at h ⊢; omega
    · cases h)
/-- The words are no longer than the text. -/
theorem wds_tot (s : Str) : tot (wds s) + (wds s).length ≤ s.length + 1 := by
  have key : ∀ (s : Str) (st : List Str × Str), tot (s.foldl stepw st).1 + (s.foldl stepw st).1.length + (s.foldl stepw st).2.length ≤ tot st.1 + st.1.length + st.2.length + s.length := by
    intro s
    induction s with
    | nil => intro st; simp
    | cons c r ih =>
      intro st
      rw [List.foldl_cons]
      refine Nat.le_trans (ih _) ?_
      cases hc : bl c with
      | true =>
        cases he : st.2.isEmpty with
        | true => simp [stepw, hc, he]
        | false => simp [stepw, hc, he, tot]; omega
      | false => simp [stepw, hc]; omega
  have := key s ([], [])
  unfold wds ends
  cases he : (s.foldl stepw ([], [])).2.isEmpty with
  | true => simp [tot] at this ⊢; omega
  | false => simp [tot] at this ⊢; omega
end G
namespace G
open W Go
abbrev P0 : TPlace := TPlace.mk (TPoint.mk 0 0 0) 0 0
theorem writeS (u p : Str) (z : Bool) (h : p.length + u.length ≤ 100000) : strings_Builder_WriteString_s4 u z p = some ((u.length : Int), p ++ u) := by
  unfold strings_Builder_WriteString_s4
  rw [show strings_Builder_copyCheck_s5 z p = some () by cases z <;> rfl, Option.bind_some, app_of (by omega)]; rfl
theorem stringS (z : Bool) (p : Str) (h : p.length ≤ 100000) : strings_Builder_String_s6 z p = some p := by
  unfold strings_Builder_String_s6 unsf
  rw [if_pos (by omega)]; rfl
theorem grow_eq (n : Nat) (h : n ≤ 100000) : strings_Builder_Grow_s1 (n : Int) true = some () := by
  unfold strings_Builder_Grow_s1
  rw [show strings_Builder_copyCheck_s2 true = some () from rfl, Option.bind_some, show decide ((n : Int) < 0) = false by simp, cond_false, show w64 (0 - 0) = 0 from rfl]
  cases hn : decide ((0 : Int) < (n : Int)) with
  | false => rfl
  | true =>
    have e : w64 (w64 (2 * 0) + (n : Int)) = (n : Int) := by rw [show w64 (2 * 0) = 0 from rfl, w64_of (by omega)]; omega
    unfold strings_Builder_grow_s3
    rw [e]
    unfold mnz
    rw [if_pos ⟨by omega, by omega⟩]
    simp only [cond_true, Option.bind_some, Int.toNat_natCast]
    rw [show rng (n : Int) 0 0 = some () by unfold rng; simp]; rfl
theorem tot_app (a b : List Str) : tot (a ++ b) = tot a + tot b := by simp [tot]
theorem sum_eq (ws : List Str) (n0 : Nat) (hl : ws.length ≤ 1000) (ht : n0 + tot ws ≤ 100000) : iter (strings_Join_b1 ws) ((n0 : Int), 0) = some ((n0 + tot ws : Nat) : Int) := by
  have key : ∀ (m i n : Nat), i + m = ws.length → n + tot (ws.drop i) = n0 + tot ws → iter (strings_Join_b1 ws) ((n : Int), (i : Int)) = some ((n0 + tot ws : Nat) : Int) := by
    intro m
    induction m with
    | zero =>
      intro i n hi hn
      rw [List.drop_of_length_le (by omega)] at hn
      refine iter_inr ?_
      unfold strings_Join_b1
      rw [show decide ((i : Int) < (ws.length : Int)) = false by simp; omega]
      simp only [cond_false]
      rw [← hn]; simp [tot]
    | succ m ih =>
      intro i n hi hn
      have hlt : i < ws.length := by omega
      have hd : tot (ws.drop i) = ws[i].length + tot (ws.drop (i + 1)) := by
        unfold tot; rw [List.drop_eq_getElem_cons hlt, List.map_cons, List.sum_cons]
      rw [← ih (i + 1) (n + ws[i].length) (by omega) (by omega)]
      refine iter_inl ?_
      unfold strings_Join_b1
      have e1 : w64 (9223372036854775807 - (n : Int)) = 9223372036854775807 - (n : Int) := w64_of (by omega)
      have e2 : decide ((ws[i].length : Int) > w64 (9223372036854775807 - (n : Int))) = false := by rw [e1]; simp; omega
      have e3 : w64 ((n : Int) + (ws[i].length : Int)) = ((n + ws[i].length : Nat) : Int) := by rw [w64_of (by omega)]; simp
      simp only [show decide ((i : Int) < (ws.length : Int)) = true by simpa using hlt, cond_true, at'_nat, List.getElem?_eq_getElem hlt, Option.bind_some, e2, cond_false, e3, w64_add1 (show i < 9223372036854775807 by omega)]
  exact key ws.length 0 n0 (by omega) (by simp)
def tailed : List Str → Str
  | [] => []
  | w :: r => 32 :: (w ++ tailed r)
theorem joined_tailed (w : Str) (r : List Str) : joined (w :: r) = w ++ tailed r := by
  induction r generalizing w with
  | nil => simp [joined, tailed]
  | cons v r ih => show w ++ 32 :: joined (v :: r) = _; rw [ih v]; rfl
theorem tailed_length (l : List Str) : (tailed l).length = tot l + l.length := by
  induction l with
  | nil => rfl
  | cons w r ih => simp [tailed, tot] at ih ⊢; omega
theorem tailed_app (a : List Str) (w : Str) : tailed (a ++ [w]) = tailed a ++ ([32] ++ w) := by
  induction a with
  | nil => simp [tailed]
  | cons v r ih => simp [tailed, ih]
theorem tails_eq (ws : List Str) (p : Str) (hl : ws.length ≤ 1000) (ht : p.length + tot ws + ws.length ≤ 50000) : iter (strings_Join_b2 [32] ws) (0, p) = some (p ++ tailed ws) := by
  have key : ∀ (m i : Nat), i + m = ws.length → iter (strings_Join_b2 [32] ws) ((i : Int), p ++ tailed (ws.take i)) = some (p ++ tailed ws) := by
    intro m
    induction m with
    | zero =>
      intro i hi
      refine iter_inr ?_
      unfold strings_Join_b2
      rw [show decide ((i : Int) < (ws.length : Int)) = false by simp; omega, List.take_of_length_le (by omega)]; rfl
    | succ m ih =>
      intro i hi
      have hlt : i < ws.length := by omega
      rw [← ih (i + 1) (by omega)]
      refine iter_inl ?_
      have ht1 : tailed (ws.take (i + 1)) = tailed (ws.take i) ++ ([32] ++ ws[i]) := by rw [List.take_succ_eq_append_getElem hlt, tailed_app]
      have hlen : tot (ws.take (i + 1)) ≤ tot ws := by
        have : tot ws = tot (ws.take (i + 1)) + tot (ws.drop (i + 1)) := by
          rw [← tot_app, List.take_append_drop]
        omega
      have hlt2 : (tailed (ws.take (i + 1))).length ≤ tot ws + ws.length := by rw [tailed_length]; simp; omega
      rw [ht1] at hlt2
      simp only [List.length_append, List.length_cons, List.length_nil] at hlt2
      unfold strings_Join_b2
      simp only [show decide ((i : Int) < (ws.length : Int)) = true by simpa using hlt, cond_true, at'_nat, List.getElem?_eq_getElem hlt, Option.bind_some]
      rw [writeS [32] _ false (by simp; omega)]
      simp only [Option.bind_some]
      rw [writeS ws[i] _ false (by simp; omega)]
      simp only [Option.bind_some, w64_add1 (show i < 9223372036854775807 by omega), ht1, List.append_assoc]
  have := key ws.length 0 (by omega)
  simpa [tailed] using this
theorem join_eq (ws : List Str) (hl : ws.length ≤ 1000) (ht : tot ws ≤ 10000) : strings_Join ws [32] = some (joined ws) := by
  match ws, hl, ht with
  | [], _, _ => rfl
  | [w], _, _ => unfold strings_Join; simp [joined, at']
  | w :: v :: r, hl, ht =>
    have hn : (w :: v :: r).length = r.length + 2 := rfl
    generalize hws : w :: v :: r = ws at hl ht hn
    have e1 : w64 ((ws.length : Int) - 1) = ((r.length + 1 : Nat) : Int) := by rw [w64_of (by omega)]; omega
    have e2 : qv 9223372036854775807 ((r.length + 1 : Nat) : Int) = some ((9223372036854775807 / (r.length + 1) : Nat) : Int) := by
      unfold qv
      rw [if_neg (by omega), Int.tdiv_eq_ediv_of_nonneg (by omega)]
      congr 1
    have hq : 2 ≤ 9223372036854775807 / (r.length + 1) := (Nat.le_div_iff_mul_le (by omega)).2 (by omega)
    have hq2 : 9223372036854775807 / (r.length + 1) ≤ 9223372036854775807 := Nat.div_le_self _ _
    generalize 9223372036854775807 / (r.length + 1) = qq at e2 hq hq2
    have e3 : w64 (qq : Int) = (qq : Int) := w64_of (by omega)
    have e4 : w64 (0 + w64 ((([32] : Str).length : Int) * ((r.length + 1 : Nat) : Int))) = ((r.length + 1 : Nat) : Int) := by
      have : ((([32] : Str).length : Int) * ((r.length + 1 : Nat) : Int)) = ((r.length + 1 : Nat) : Int) := by simp
      rw [this, w64_of (n := ((r.length + 1 : Nat) : Int)) (by omega), w64_of (by omega)]; omega
    have hj : joined ws = w ++ tailed (v :: r) := by rw [← hws, joined_tailed]
    have htt : tot ws = w.length + tot (v :: r) := by rw [← hws]; simp [tot]
    have hsub : sub' ws 1 (ws.length : Int) = some (v :: r) := by
      unfold sub'
      rw [decide_eq_true (show (0 : Int) ≤ 1 ∧ (1 : Int) ≤ (ws.length : Int) ∧ (ws.length : Int) ≤ (ws.length : Int) by omega)]
      rw [← hws]; simp
      exact List.take_of_length_le (by simp; omega)
    have hat : at' ws 0 = some w := by rw [← hws]; rfl
    unfold strings_Join
    rw [show ((ws.length : Int) == 0) = false by simp; intro h; rw [h] at hn; simp at hn, show ((ws.length : Int) == 1) = false by rw [beq_eq_false_iff_ne]; omega]
    simp only [cond_false, show decide ((([32] : Str).length : Int) > 0) = true from rfl, cond_true, e1, e2, Option.bind_some, e3, e4]
    rw [show decide ((([32] : Str).length : Int) ≥ (qq : Int)) = false by simp; omega, cond_false, sum_eq ws (r.length + 1) hl (by omega)]
    simp only [Option.bind_some]
    rw [grow_eq _ (by omega)]
    simp only [Option.bind_some, hat, hsub]
    rw [writeS w [] false (by simp; omega)]
    simp only [Option.bind_some, List.nil_append]
    have hll : (v :: r).length = r.length + 1 := rfl
    rw [tails_eq (v :: r) w (by omega) (by omega)]
    simp only [Option.bind_some]
    rw [stringS false _ (by rw [List.length_append, tailed_length]; omega), hj]; rfl
theorem joined_asc : ∀ (l : List Str), (∀ w ∈ l, Asc w) → Asc (joined l)
  | [], _ => fun b hb => by simp [joined] at hb
  | [w], h => h w (by simp)
  | w :: v :: r, h => by
    intro b hb
    simp only [joined, List.mem_append, List.mem_cons] at hb
    rcases hb with hb | rfl | hb
    · exact h w (by simp) b hb
    · decide
    · exact joined_asc (v :: r) (fun x hx => h x (by simp [hx])) b hb
theorem wds_asc (s : Str) (h : Asc s) : ∀ w ∈ wds s, Asc w := by
  have key : ∀ (s : Str) (st : List Str × Str), Asc s → (∀ w ∈ st.1, Asc w) → Asc st.2 → (∀ w ∈ (s.foldl stepw st).1, Asc w) ∧ Asc (s.foldl stepw st).2 := by
    intro s
    induction s with
    | nil => intro st _ h1 h2; exact ⟨h1, h2⟩
    | cons c r ih =>
      intro st hs h1 h2
      rw [List.foldl_cons]
      have hr : Asc r := fun b hb => hs b (by simp [hb])
      cases hc : bl c with
      | true =>
        cases he : st.2.isEmpty with
        | true => rw [show stepw st c = st by simp [stepw, hc, he]]; exact ih st hr h1 h2
        | false =>
          rw [show stepw st c = (st.1 ++ [st.2], []) by simp [stepw, hc, he]]
          refine ih _ hr (fun w hw => ?_) (fun b hb => by cases hb)
          rcases List.mem_append.1 hw with hw | hw
          · exact h1 w hw
          · obtain rfl := List.mem_singleton.1 hw; exact h2
      | false =>
        rw [show stepw st c = (st.1, st.2 ++ [c]) by simp [stepw, hc]]
        exact ih _ hr h1 (h2.app fun b hb => by obtain rfl := List.mem_singleton.1 hb; exact hs _ (by simp))
  obtain ⟨h1, h2⟩ := key s ([], []) h (by simp) (fun b hb => by cases hb)
  intro w hw
  unfold wds ends at hw
  cases he : (s.foldl stepw ([], [])).2.isEmpty with
  | true => rw [he] at hw; exact h1 w hw
  | false =>
    rw [he] at hw
    rcases List.mem_append.1 hw with hw | hw
    · exact h1 w hw
    · obtain rfl := List.mem_singleton.1 hw; exact h2
def norm (s : Str) : Str := joined (wds s)
theorem norm_norm (s : Str) : norm (norm s) = norm s := by
  unfold norm
  rw [wds_joined _ (wds_wordly s)]
theorem norm_length (s : Str) : (norm s).length ≤ s.length := by
  have h1 := wds_tot s
  rcases joined_length (wds s) with h | h
  · unfold norm; omega
  · unfold norm; rw [h]; simp [joined]
theorem norm_asc (s : Str) (h : Asc s) : Asc (norm s) := joined_asc _ (wds_asc s h)
theorem normal_do (x : TIndex) (s : Str) (h : Asc s) (hl : s.length ≤ 900) : call_Do (some x) P0 [110, 111, 114, 109, 97, 108, 105, 122, 101, 45, 115, 112, 97, 99, 101] [TT s] = some (TT (norm s), 0) := by
  unfold call_Do
  rw [show call_shapes = some (call_shapes.getD []) from rfl]
  have e : mget (call_shapes.getD []) [110, 111, 114, 109, 97, 108, 105, 122, 101, 45, 115, 112, 97, 99, 101] = some (TShape.mk 0 1 false) := by kernel_rfl
  simp only [Option.isNone_some, cond_false, Option.bind_some, e, Option.isSome_some, Bool.not_true, Option.getD_some, List.length_cons, List.length_nil]
  have h0 : call_caller_text (TCaller.mk (some x) P0 [TT s]) 0 = some s := argText x P0 _ 0 s rfl
  have hw := words_eq s h (by omega)
  have hb := wds_tot s
  have hj := join_eq (wds s) (by omega) (by omega)
  unfold call_caller_do call_caller_texts
  simp [h0, hw, hj, ofText_eq, norm]
theorem length_do (x : TIndex) (s : Str) (h : Asc s) (hl : s.length ≤ 900) : call_Do (some x) P0 [115, 116, 114, 105, 110, 103, 45, 108, 101, 110, 103, 116, 104] [TT s] = some (TValue.mk 2 [] false (s.length : Int) false [], 0) := by
  unfold call_Do
  rw [show call_shapes = some (call_shapes.getD []) from rfl]
  have e : mget (call_shapes.getD []) [115, 116, 114, 105, 110, 103, 45, 108, 101, 110, 103, 116, 104] = some (TShape.mk 0 1 false) := by kernel_rfl
  simp only [Option.isNone_some, cond_false, Option.bind_some, e, Option.isSome_some, Bool.not_true, Option.getD_some, List.length_cons, List.length_nil]
  have h0 : call_caller_text (TCaller.mk (some x) P0 [TT s]) 0 = some s := argText x P0 _ 0 s rfl
  have hr := runes_asc s h (by omega)
  have hn : value_OfNumber (s.length : Int) = some (TValue.mk 2 [] false (s.length : Int) false [], 0) := by
    unfold value_OfNumber
    rw [show decide ((s.length : Int) < -9007199254740992) = false from decide_eq_false (by omega), show decide ((s.length : Int) > 9007199254740992) = false from decide_eq_false (by omega)]; rfl
  unfold call_caller_do
  simp [h0, hr, hn]
theorem starts_do (x : TIndex) (s t : Str) : call_Do (some x) P0 [115, 116, 97, 114, 116, 115, 45, 119, 105, 116, 104] [TT (s ++ t), TT s] = some (TValue.mk 1 [] true 0 false [], 0) := by
  unfold call_Do
  rw [show call_shapes = some (call_shapes.getD []) from rfl]
  have e : mget (call_shapes.getD []) [115, 116, 97, 114, 116, 115, 45, 119, 105, 116, 104] = some (TShape.mk 2 2 false) := by kernel_rfl
  simp only [Option.isNone_some, cond_false, Option.bind_some, e, Option.isSome_some, Bool.not_true, Option.getD_some, List.length_cons, List.length_nil]
  have h0 : call_caller_text (TCaller.mk (some x) P0 [TT (s ++ t), TT s]) 0 = some (s ++ t) := argText x P0 _ 0 _ rfl
  have h1 : call_caller_text (TCaller.mk (some x) P0 [TT (s ++ t), TT s]) 1 = some s := argText x P0 _ 1 _ rfl
  have hp : strings_HasPrefix (s ++ t) s = some true := by
    unfold strings_HasPrefix stringslite_HasPrefix
    rw [show decide (((s ++ t).length : Int) ≥ (s.length : Int)) = true by simp; omega]
    have : sub' (s ++ t) 0 (s.length : Int) = some s := by
      unfold sub'
      rw [decide_eq_true (show (0 : Int) ≤ 0 ∧ (0 : Int) ≤ (s.length : Int) ∧ (s.length : Int) ≤ ((s ++ t).length : Int) by simp; omega)]
      simp
    simp [this]
  unfold call_caller_do call_caller_texts
  simp [h0, h1, hp]
  rfl
theorem has_do (x : TIndex) (s t : Str) (hl : (s ++ t).length ≤ 900) : call_Do (some x) P0 [99, 111, 110, 116, 97, 105, 110, 115] [TT (s ++ t), TT t] = some (TValue.mk 1 [] true 0 false [], 0) := by
  unfold call_Do
  rw [show call_shapes = some (call_shapes.getD []) from rfl]
  have e : mget (call_shapes.getD []) [99, 111, 110, 116, 97, 105, 110, 115] = some (TShape.mk 2 2 false) := by kernel_rfl
  simp only [Option.isNone_some, cond_false, Option.bind_some, e, Option.isSome_some, Bool.not_true, Option.getD_some, List.length_cons, List.length_nil]
  have h0 : call_caller_text (TCaller.mk (some x) P0 [TT (s ++ t), TT t]) 0 = some (s ++ t) := argText x P0 _ 0 _ rfl
  have h1 : call_caller_text (TCaller.mk (some x) P0 [TT (s ++ t), TT t]) 1 = some t := argText x P0 _ 1 _ rfl
  have hc : strings_Contains (s ++ t) t = some true := by
    unfold strings_Contains strings_Index stringslite_Index
    rw [show decide ((s ++ t).length < 4294967281) = true by simp at hl ⊢; omega]
    have hi : 0 ≤ Go.Lib.index (s ++ t) t := by
      rcases Go.Lib.index_spec (s ++ t) t with ⟨_, h2⟩ | ⟨i, h1, _⟩
      · have := h2 s.length (by simp)
        simp only [Go.Lib.occAt, List.drop_left] at this
        rw [List.isPrefixOf_iff_prefix.2 (List.prefix_refl t)] at this
        cases this
      · omega
    simp [hi]
  unfold call_caller_do call_caller_texts
  simp [h0, h1, hc]
  rfl
theorem concat_do (x : TIndex) (s t : Str) (hl : s.length + t.length ≤ 900) : call_Do (some x) P0 [99, 111, 110, 99, 97, 116] [TT s, TT t] = some (TT (s ++ t), 0) := by
  unfold call_Do
  rw [show call_shapes = some (call_shapes.getD []) from rfl]
  have e : mget (call_shapes.getD []) [99, 111, 110, 99, 97, 116] = some (TShape.mk 2 1048576 false) := by kernel_rfl
  simp only [Option.isNone_some, cond_false, Option.bind_some, e, Option.isSome_some, Bool.not_true, Option.getD_some, List.length_cons, List.length_nil]
  have h0 : call_caller_text (TCaller.mk (some x) P0 [TT s, TT t]) 0 = some s := argText x P0 _ 0 _ rfl
  have h1 : call_caller_text (TCaller.mk (some x) P0 [TT s, TT t]) 1 = some t := argText x P0 _ 1 _ rfl
  have hi : iter (call_caller_texts_b1 (TCaller.mk (some x) P0 [TT s, TT t])) (0, true, []) = some (false, s ++ t) := by
    have s1 : call_caller_texts_b1 (TCaller.mk (some x) P0 [TT s, TT t]) (0, true, []) = some (.inl (1, false, s)) := by
      unfold call_caller_texts_b1
      rw [show decide ((0 : Int) < (((TCaller.mk (some x) P0 [TT s, TT t]).args.length : Nat) : Int)) = true from rfl]
      simp only [cond_true, h0, Option.bind_some]
      rw [writeS s [] true (by simp; omega)]
      rfl
    have s2 : call_caller_texts_b1 (TCaller.mk (some x) P0 [TT s, TT t]) (1, false, s) = some (.inl (2, false, s ++ t)) := by
      unfold call_caller_texts_b1
      rw [show decide ((1 : Int) < (((TCaller.mk (some x) P0 [TT s, TT t]).args.length : Nat) : Int)) = true from rfl]
      simp only [cond_true, h1, Option.bind_some]
      rw [writeS t s false (by omega)]
      rfl
    rw [iter_inl s1, iter_inl s2]
    exact iter_inr rfl
  unfold call_caller_do call_caller_texts
  simp [hi, stringS false (s ++ t) (by simp; omega), ofText_eq]
theorem CallTexts_eq (s t : Str) (hb : s.length + t.length ≤ 9223372036854775807) : apostillelaw17_CallTexts s t = some true := by
  unfold apostillelaw17_CallTexts
  rw [awake_eq]
  simp only [Option.bind_some, Bool.not_true, cond_false]
  have e0 : w64 ((s.length : Int) + (t.length : Int)) = (s.length : Int) + (t.length : Int) := w64_of (by omega)
  rw [e0]
  by_cases hs : decide ((s.length : Int) + (t.length : Int) > 200) = true
  · rw [hs, cond_true]
  · simp only [Bool.not_eq_true] at hs
    rw [hs, cond_false]
    have hs' : s.length + t.length ≤ 200 := by have := of_decide_eq_false hs; omega
    obtain ⟨v6, x, e, h6, h7⟩ := doc_eq
    have f1 := flt_length s
    have f2 := flt_length t
    have a1 := asc_flt s
    have a2 := asc_flt t
    rw [made_eq s (by omega), made_eq t (by omega), h6, Option.bind_some, Option.bind_some, Option.bind_some, h7, Option.bind_some]
    show (call_Do (some x) P0 [99, 111, 110, 99, 97, 116] [TT (flt s), TT (flt t)]).bind _ = some true
    generalize flt s = u at f1 a1
    generalize flt t = v at f2 a2
    have hu : (u ++ v).length ≤ 200 := by simp; omega
    have ha := a1.app a2
    have hnl := norm_length (u ++ v)
    have e1 := concat_do x u v (by omega)
    have e2 := length_do x (u ++ v) ha (by omega)
    have e3 := starts_do x u v
    have e4 := has_do x u v (by omega)
    have e5 := normal_do x (u ++ v) ha (by omega)
    have e6 := normal_do x (norm (u ++ v)) (norm_asc _ ha) (by omega)
    rw [norm_norm] at e6
    have hc : cat u v = some (u ++ v) := cat_of (by omega)
    have hw : w64 ((u.length : Int) + (v.length : Int)) = ((u ++ v).length : Int) := by rw [w64_of (by omega)]; simp
    rw [e1, Option.bind_some]
    show (call_Do (some x) P0 [115, 116, 114, 105, 110, 103, 45, 108, 101, 110, 103, 116, 104] [TT (u ++ v)]).bind _ = some true
    rw [e2, Option.bind_some]
    show (call_Do (some x) P0 [115, 116, 97, 114, 116, 115, 45, 119, 105, 116, 104] [TT (u ++ v), TT u]).bind _ = some true
    rw [e3, Option.bind_some]
    show (call_Do (some x) P0 [99, 111, 110, 116, 97, 105, 110, 115] [TT (u ++ v), TT v]).bind _ = some true
    rw [e4, Option.bind_some]
    show (call_Do (some x) P0 [110, 111, 114, 109, 97, 108, 105, 122, 101, 45, 115, 112, 97, 99, 101] [TT (u ++ v)]).bind _ = some true
    rw [e5, Option.bind_some]
    show (call_Do (some x) P0 [110, 111, 114, 109, 97, 108, 105, 122, 101, 45, 115, 112, 97, 99, 101] [TT (norm (u ++ v))]).bind _ = some true
    rw [e6, Option.bind_some]
    show (cat u v).bind _ = some true
    rw [hc, Option.bind_some]
    show (bif u ++ v == u ++ v then bif ((u ++ v).length : Int) == w64 ((u.length : Int) + (v.length : Int)) then some (norm (u ++ v) == norm (u ++ v)) else some false else some false) = some true
    rw [hw]
    simp
end G
