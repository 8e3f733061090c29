/-
  CallCuts, plain: it answers true for all texts. No program, no memory. Conditions: none.
-/
import Derived.Test.YtipbfnjpfmmkfaaGreatDoorTCom
set_option maxRecDepth 20000
namespace G
open W Go
abbrev P0 : TPlace := TPlace.mk (TPoint.mk 0 0 0) 0 0
theorem before_do (x : TIndex) (s t : Str) : call_Do (some x) P0 [115, 117, 98, 115, 116, 114, 105, 110, 103, 45, 98, 101, 102, 111, 114, 101] [TT s, TT t] = (strings_Cut s t).bind fun v => some (TT (bif !v.2.2 then [] else v.1), 0) := by
  unfold call_Do
  rw [show call_shapes = some (call_shapes.getD []) from rfl]
  have e : mget (call_shapes.getD []) [115, 117, 98, 115, 116, 114, 105, 110, 103, 45, 98, 101, 102, 111, 114, 101] = some (TShape.mk 2 2 false) := by kernel_rfl
  simp only [Option.isNone_some, cond_false, Option.bind_some, e, Option.isSome_some, Bool.not_true, Option.getD_some, List.length_cons, List.length_nil]
  have h0 : call_caller_text (TCaller.mk (some x) P0 [TT s, TT t]) 0 = some s := argText x P0 _ 0 s rfl
  have h1 : call_caller_text (TCaller.mk (some x) P0 [TT s, TT t]) 1 = some t := argText x P0 _ 1 t rfl
  unfold call_caller_do call_caller_texts
  simp [h0, h1]
  cases strings_Cut s t with
  | none => rfl
  | some v =>
    obtain ⟨a, b, c⟩ := v
    cases c <;> rfl
theorem after_do (x : TIndex) (s t : Str) : call_Do (some x) P0 [115, 117, 98, 115, 116, 114, 105, 110, 103, 45, 97, 102, 116, 101, 114] [TT s, TT t] = (strings_Cut s t).bind fun v => some (TT v.2.1, 0) := by
  unfold call_Do
  rw [show call_shapes = some (call_shapes.getD []) from rfl]
  have e : mget (call_shapes.getD []) [115, 117, 98, 115, 116, 114, 105, 110, 103, 45, 97, 102, 116, 101, 114] = some (TShape.mk 2 2 false) := by kernel_rfl
  simp only [Option.isNone_some, cond_false, Option.bind_some, e, Option.isSome_some, Bool.not_true, Option.getD_some, List.length_cons, List.length_nil]
  have h0 : call_caller_text (TCaller.mk (some x) P0 [TT s, TT t]) 0 = some s := argText x P0 _ 0 s rfl
  have h1 : call_caller_text (TCaller.mk (some x) P0 [TT s, TT t]) 1 = some t := argText x P0 _ 1 t rfl
  unfold call_caller_do call_caller_texts
  simp [h0, h1]
  cases strings_Cut s t <;> rfl
theorem contains_do (x : TIndex) (s t : Str) : call_Do (some x) P0 [99, 111, 110, 116, 97, 105, 110, 115] [TT s, TT t] = (strings_Contains s t).bind fun v => some (TValue.mk 1 [] v 0 false [], 0) := by
  unfold call_Do
  rw [show call_shapes = some (call_shapes.getD []) from rfl]
  have e : mget (call_shapes.getD []) [99, 111, 110, 116, 97, 105, 110, 115] = some (TShape.mk 2 2 false) := by kernel_rfl
  simp only [Option.isNone_some, cond_false, Option.bind_some, e, Option.isSome_some, Bool.not_true, Option.getD_some, List.length_cons, List.length_nil]
  have h0 : call_caller_text (TCaller.mk (some x) P0 [TT s, TT t]) 0 = some s := argText x P0 _ 0 s rfl
  have h1 : call_caller_text (TCaller.mk (some x) P0 [TT s, TT t]) 1 = some t := argText x P0 _ 1 t rfl
  unfold call_caller_do call_caller_texts
  simp [h0, h1]
  cases strings_Contains s t <;> rfl
theorem index_eq (s t : Str) (h : s.length ≤ 200) : stringslite_Index s t = some (Go.Lib.index s t) := by
  unfold stringslite_Index
  rw [show decide (s.length < 4294967281) = true by simp; omega]; rfl
theorem cut_eq (s t : Str) (h : s.length ≤ 200) : ∃ a b c, strings_Cut s t = some (a, b, c) ∧ strings_Contains s t = some c ∧ a.length ≤ 200 ∧ b.length ≤ 200 ∧ t.length ≤ (bif c then 200 else t.length) ∧ (c = true → a ++ t ++ b = s) ∧ (c = false → a = s ∧ b = []) := by
  unfold strings_Cut stringslite_Cut strings_Contains strings_Index
  rw [index_eq s t h]
  simp only [Option.bind_some]
  rcases Go.Lib.index_spec s t with ⟨h1, _⟩ | ⟨i, h1, h2, h3, _⟩
  · rw [h1]
    exact ⟨s, [], false, rfl, rfl, h, by simp, by simp, by simp, by simp⟩
  · have hr := Go.Lib.index_room s t (by omega)
    rw [h1] at hr ⊢
    have hge : decide ((i : Int) ≥ 0) = true := by simp
    have hw : w64 ((i : Int) + (t.length : Int)) = ((i + t.length : Nat) : Int) := by rw [w64_of (by omega)]; simp
    have s1 : sub' s 0 (i : Int) = some (s.take i) := by
      unfold sub'
      rw [show decide ((0 : Int) ≤ 0 ∧ (0 : Int) ≤ (i : Int) ∧ (i : Int) ≤ (s.length : Int)) = true by simp; omega]
      simp
    have s2 : sub' s ((i + t.length : Nat) : Int) (s.length : Int) = some (s.drop (i + t.length)) := by
      unfold sub'
      rw [show decide ((0 : Int) ≤ ((i + t.length : Nat) : Int) ∧ ((i + t.length : Nat) : Int) ≤ (s.length : Int) ∧ (s.length : Int) ≤ (s.length : Int)) = true by simp; omega]
      simp only [cond_true, Int.toNat_natCast]
      rw [List.take_of_length_le (by simp)]
    rw [hge]
    simp only [cond_true, s1, hw, s2, Option.bind_some]
    refine ⟨_, _, true, rfl, rfl, by simp; omega, by simp; omega, by simp; omega, fun _ => ?_, fun h => by cases h⟩
    have : t ++ s.drop (i + t.length) = s.drop i := by
      have h4 : t.isPrefixOf (s.drop i) = true := h3
      rw [List.isPrefixOf_iff_prefix] at h4
      obtain ⟨r, hr2⟩ := h4
      rw [← List.drop_drop, ← hr2]; simp
    rw [List.append_assoc, this, List.take_append_drop]
theorem CallCuts_eq (s t : Str) : apostillelaw17_CallCuts s t = some true := by
  unfold apostillelaw17_CallCuts
  rw [awake_eq]
  simp only [Option.bind_some, Bool.not_true, cond_false]
  by_cases hs : decide ((s.length : Int) > 200) = true
  · rw [hs]; rfl
  · simp only [Bool.not_eq_true] at hs
    rw [hs]
    simp only [cond_false, Option.bind_some]
    by_cases ht : decide ((t.length : Int) > 20) = true
    · rw [ht]; rfl
    · simp only [Bool.not_eq_true] at ht
      rw [ht]
      have hs' : s.length ≤ 200 := by have := of_decide_eq_false hs; omega
      have ht' : t.length ≤ 200 := by have := of_decide_eq_false ht; omega
      obtain ⟨v6, x, e, h6, h7⟩ := doc_eq
      have f1 := Nat.le_trans (flt_length s) hs'
      have f2 := Nat.le_trans (flt_length t) ht'
      obtain ⟨a, b, c, hc1, hc2, la, lb, lt', hct, hcf⟩ := cut_eq (flt s) (flt t) f1
      rw [cond_false, made_eq s hs', made_eq t ht']
      simp only [Option.bind_some, h6, h7, TT, ofText_eq]
      have e1 := before_do x (flt s) (flt t)
      have e2 := after_do x (flt s) (flt t)
      have e3 := contains_do x (flt s) (flt t)
      simp only [TT] at e1 e2 e3
      rw [e1, e2, e3, hc1, hc2]
      simp only [Option.bind_some]
      cases c with
      | true =>
        have hc := hct rfl
        show (cat a (flt t)).bind _ = _
        rw [cat_of (by omega)]
        show (cat (a ++ flt t) b).bind _ = _
        rw [cat_of (by simp; omega), Option.bind_some, hc]
        show (bif flt s == flt s then some true else _) = _
        rw [beq_self_eq_true]; rfl
      | false =>
        obtain ⟨rfl, rfl⟩ := hcf rfl
        rfl
end G
