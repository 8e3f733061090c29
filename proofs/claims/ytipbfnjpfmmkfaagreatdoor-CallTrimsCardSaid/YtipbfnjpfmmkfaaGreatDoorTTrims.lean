/-
  CallTrims, plain: it answers true for every text and number. No program, no memory. Conditions: none.
-/
import Derived.Test.YtipbfnjpfmmkfaaGreatDoorTAsc
set_option maxRecDepth 20000
set_option linter.unusedVariables false
set_option linter.unusedSimpArgs false
namespace G
open W Go
abbrev P0 : TPlace := TPlace.mk (TPoint.mk 0 0 0) 0 0
theorem by_nil : iter (call_caller_translate_b1 []) (0, []) = some [] := iter_inr rfl
theorem write_asc (z : Bool) (p : Str) (b : UInt8) (hb : b.toNat < 128) (hl : p.length ≤ 1000) : strings_Builder_WriteRune_s22 (ord b) z p = some (w64 (((p ++ [b]).length : Int) - (p.length : Int)), p ++ [b]) := by
  unfold strings_Builder_WriteRune_s22
  have h : strings_Builder_copyCheck_s5 z p = some () := by cases z <;> rfl
  rw [h, Option.bind_some, put_asc p b hb hl]; rfl
theorem turn_eq (to : List Int) (s : Str) (h : Asc s) (hl : s.length ≤ 200) : ∃ z, iter (call_caller_translate_b2 to [] s) (true, 0, []) = some (z, s) := by
  have key : ∀ (m i : Nat) (z : Bool), i + m = s.length → ∃ z', iter (call_caller_translate_b2 to [] s) (z, i, s.take i) = some (z', s) := by
    intro m
    induction m with
    | zero =>
      intro i z hi
      refine ⟨z, iter_inr ?_⟩
      unfold call_caller_translate_b2
      have hd : decide (i < s.length) = false := by simp; omega
      simp only [hd, cond_false]
      rw [List.take_of_length_le (by omega)]
    | succ m ih =>
      intro i z hi
      have hlt : i < s.length := by omega
      have hg := List.getElem?_eq_getElem hlt
      have hb : s[i].toNat < 128 := h _ (List.getElem_mem _)
      obtain ⟨z', hz⟩ := ih (i + 1) false (by omega)
      refine ⟨z', ?_⟩
      rw [← hz]
      refine iter_inl ?_
      unfold call_caller_translate_b2
      have hd : decide (i < s.length) = true := by simpa using hlt
      have hw := write_asc z (s.take i) s[i] hb (by simp; omega)
      have ho : (ord s[i] : Int) = (s[i].toNat : Int) := rfl
      rw [ho] at hw
      have ht : s.take i ++ [s[i]] = s.take (i + 1) := by rw [List.take_succ_eq_append_getElem hlt]
      simp only [hd, cond_true, dec_asc h hg, mget, Option.isSome_none, Bool.not_false, hw, Option.bind_some, ht]
  exact key s.length 0 true (by omega)
theorem translate_do (x : TIndex) (s : Str) (h : Asc s) (hl : s.length ≤ 200) : call_Do (some x) P0 [116, 114, 97, 110, 115, 108, 97, 116, 101] [TT s, TT [], TT [97, 98, 99]] = some (TT s, 0) := by
  unfold call_Do
  rw [show call_shapes = some (call_shapes.getD []) from rfl]
  have e : mget (call_shapes.getD []) [116, 114, 97, 110, 115, 108, 97, 116, 101] = some (TShape.mk 3 3 false) := by kernel_rfl
  simp only [Option.isNone_some, cond_false, Option.bind_some, e, Option.isSome_some, Bool.not_true, Option.getD_some, List.length_cons, List.length_nil]
  have h0 : call_caller_text (TCaller.mk (some x) P0 [TT s, TT [], TT [97, 98, 99]]) 0 = some s := argText x P0 _ 0 s rfl
  have h1 : call_caller_text (TCaller.mk (some x) P0 [TT s, TT [], TT [97, 98, 99]]) 1 = some [] := argText x P0 _ 1 [] rfl
  have h2 : call_caller_text (TCaller.mk (some x) P0 [TT s, TT [], TT [97, 98, 99]]) 2 = some [97, 98, 99] := argText x P0 _ 2 _ rfl
  have r2 : runes [97, 98, 99] = some [97, 98, 99] := rfl
  have r1 : runes [] = some [] := rfl
  obtain ⟨z, ht⟩ := turn_eq [97, 98, 99] s h hl
  have hs : strings_Builder_String_s6 z s = some s := by unfold strings_Builder_String_s6 unsf; rw [if_pos (by omega)]; rfl
  have ht2 : call_caller_translate (TCaller.mk (some x) P0 [TT s, TT [], TT [97, 98, 99]]) = some (TT s) := by
    unfold call_caller_translate
    simp only [h0, h1, h2, r1, r2, by_nil, ht, hs, Option.bind_some, ofText_eq]
  unfold call_caller_do call_caller_texts
  simp [ht2]
theorem one_arg (x : TIndex) (s : Str) : call_caller_number (TCaller.mk (some x) P0 [TT s, TValue.mk 2 [] false 1 false []]) 1 = some (TValue.mk 2 [] false 1 false [], 0) := rfl
theorem sub_do (x : TIndex) (s : Str) (h : Asc s) (hl : s.length ≤ 200) : call_Do (some x) P0 [115, 117, 98, 115, 116, 114, 105, 110, 103] [TT s, TValue.mk 2 [] false 1 false []] = some (TT s, 0) := by
  unfold call_Do
  rw [show call_shapes = some (call_shapes.getD []) from rfl]
  have e : mget (call_shapes.getD []) [115, 117, 98, 115, 116, 114, 105, 110, 103] = some (TShape.mk 2 3 false) := by kernel_rfl
  simp only [Option.isNone_some, cond_false, Option.bind_some, e, Option.isSome_some, Bool.not_true, Option.getD_some, List.length_cons, List.length_nil]
  have h0 : call_caller_text (TCaller.mk (some x) P0 [TT s, TValue.mk 2 [] false 1 false []]) 0 = some s := argText x P0 _ 0 s rfl
  have hs : call_caller_substring (TCaller.mk (some x) P0 [TT s, TValue.mk 2 [] false 1 false []]) = some (TT s, 0) := by
    unfold call_caller_substring
    rw [one_arg, Option.bind_some, h0]
    simp only [Option.bind_some, runes_asc s h (by omega)]
    have e1 : decide (((TCaller.mk (some x) P0 [TT s, TValue.mk 2 [] false 1 false []]).args.length : Int) > 2) = false := rfl
    have e2 : ((0 : Int) != 0) = false := rfl
    have e3 : mx 1 1 = 1 := rfl
    have e4 : w64 (((s.map ord).length : Int) + 1) = (s.length : Int) + 1 := by rw [w64_of (by simp; omega)]; simp
    simp only [e1, e2, cond_false, e3, e4]
    by_cases h1 : s = []
    · subst h1; rfl
    · have hp : 0 < s.length := List.length_pos_iff.2 h1
      have e5 : decide ((1 : Int) ≥ (s.length : Int) + 1) = false := by simp; omega
      have e6 : w64 ((1 : Int) - 1) = 0 := rfl
      have e7 : w64 ((s.length : Int) + 1 - 1) = (s.length : Int) := by rw [w64_of (by omega)]; omega
      have e8 : rng ((s.map ord).length : Int) 0 (s.length : Int) = some () := by unfold rng; simp
      have e9 : prt (s.map ord) (0 : Int).toNat ((s.length : Int).toNat - (0 : Int).toNat) = some (s.map ord) := by
        unfold prt; simp; exact List.take_of_length_le (by simp)
      simp only [e5, cond_false, e6, e7, e8, e9, Option.bind_some, encs_asc s h, ofText_eq]
  unfold call_caller_do
  simp [hs]
theorem floor_do (x : TIndex) (n : Int) : call_Do (some x) P0 [102, 108, 111, 111, 114] [TValue.mk 2 [] false n false []] = some (TValue.mk 2 [] false n false [], 0) := by
  unfold call_Do
  rw [show call_shapes = some (call_shapes.getD []) from rfl]
  have e : mget (call_shapes.getD []) [102, 108, 111, 111, 114] = some (TShape.mk 1 1 false) := by kernel_rfl
  simp only [Option.isNone_some, cond_false, Option.bind_some, e, Option.isSome_some, Bool.not_true, Option.getD_some, List.length_cons, List.length_nil]
  have hs : call_caller_number (TCaller.mk (some x) P0 [TValue.mk 2 [] false n false []]) 0 = some (TValue.mk 2 [] false n false [], 0) := rfl
  unfold call_caller_do
  simp [hs]
theorem same_num (n : Int) : value_Same (TValue.mk 2 [] false n false []) (TValue.mk 2 [] false n false []) = some true := by
  have hi : iter (slices_Equal_Point_b1 [] []) 0 = some (Sum.inr ()) := iter_inr rfl
  unfold value_Same slices_Equal_Point
  simp [hi]
theorem CallTrims_eq (s : Str) (n : Int) : apostillelaw17_CallTrims s n = some true := by
  unfold apostillelaw17_CallTrims
  rw [awake_eq]
  simp only [Option.bind_some, Bool.not_true, cond_false]
  by_cases hs : decide ((s.length : Int) > 200) = true
  · rw [hs]; rfl
  · simp only [Bool.not_eq_true] at hs
    have hs' : s.length ≤ 200 := by have := of_decide_eq_false hs; omega
    obtain ⟨v6, x, e, h6, h7⟩ := doc_eq
    have f1 := Nat.le_trans (flt_length s) hs'
    have hn1 : value_OfNumber 1 = some (TValue.mk 2 [] false 1 false [], 0) := rfl
    rw [hs, cond_false, made_eq s hs', h6]
    simp only [Option.bind_some, h7, hn1, TT, ofText_eq]
    have e1 := translate_do x (flt s) (asc_flt s) f1
    have e2 := sub_do x (flt s) (asc_flt s) f1
    simp only [TT] at e1 e2
    rw [e1, e2]
    simp only [Option.bind_some]
    have hb : (flt s == flt s) = true := beq_self_eq_true _
    rcases Int.lt_or_le n (-9007199254740992) with h1 | h1
    · have : value_OfNumber n = some (TValue.mk 0 [] false 0 false [], 6) := by unfold value_OfNumber; rw [decide_eq_true h1]; rfl
      rw [this]; simp [hb]
    · rcases Int.lt_or_le 9007199254740992 n with h2 | h2
      · have : value_OfNumber n = some (TValue.mk 0 [] false 0 false [], 6) := by
          unfold value_OfNumber
          rw [show decide (n < -9007199254740992) = false by simp; omega, show decide (n > 9007199254740992) = true by simp; omega]; rfl
        rw [this]; simp [hb]
      · have : value_OfNumber n = some (TValue.mk 2 [] false n false [], 0) := by
          unfold value_OfNumber
          rw [show decide (n < -9007199254740992) = false by simp; omega, show decide (n > 9007199254740992) = false by simp; omega]; rfl
        rw [this]
        simp only [Option.bind_some, floor_do, same_num]
        simp [hb]
end G
