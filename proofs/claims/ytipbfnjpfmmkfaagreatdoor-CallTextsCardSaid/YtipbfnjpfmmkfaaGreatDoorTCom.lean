/-
  WHAT THE CALL LAWS SHARE, plain: their own test; the bytes of a text that stay; the document <a/>; a function of a name. No program, no memory. Conditions: none.
-/
import Derived.Test.YtipbfnjpfmmkfaaGreatDoorTEval
import Derived.Test.YtipbfnjpfmmkfaaGreatDoorAbsPureS
import Derived.Lib.IndexMore
import Derived.WalkKit
set_option maxRecDepth 20000
set_option linter.unusedVariables false
set_option linter.unusedSimpArgs false
namespace G
open W Go
theorem awake_e_eq : apostillelaw17_awake_e = some true := by kernel_rfl
theorem awake_eq : apostillelaw17_awake = some true := apostillelaw17_awake_le _ awake_e_eq
theorem doc_e_eq : ((parse_Parse_e [60, 97, 47, 62]).bind fun v6 => (ident_Of_e v6.1).bind fun v7 => some v7.1.isSome) = some true := by kernel_rfl
theorem bind_some' {α β : Type} {x : Option α} {k : α → Option β} {r : β} (h : x.bind k = some r) : ∃ v, x = some v ∧ k v = some r := by
  cases x with
  | none => cases h
  | some v => exact ⟨v, rfl, h⟩
/-- The document <a/>, and its index. -/
theorem doc_eq : ∃ v6 x e, parse_Parse [60, 97, 47, 62] = some v6 ∧ ident_Of v6.1 = some (some x, e) := by
  obtain ⟨v6, h6, h⟩ := bind_some' doc_e_eq
  obtain ⟨v7, h7, h⟩ := bind_some' h
  obtain ⟨o, e⟩ := v7
  cases o with
  | none => cases h
  | some x => exact ⟨v6, x, e, parse_Parse_le _ _ h6, ident_Of_le _ _ h7⟩
/-- The bytes that stay. -/
def stays (b : UInt8) : Bool := decide ((b.toNat : Int) ≥ 32) && decide ((b.toNat : Int) < 128)
def flt (s : Str) : Str := s.filter stays
theorem flt_length (s : Str) : (flt s).length ≤ s.length := List.length_filter_le _ _
theorem text_eq (s : Str) (hs : s.length ≤ 200) : apostillelaw16_text s = some (flt s) := by
  unfold apostillelaw16_text
  have key : ∀ (m : Nat) (p q : Str), s = p ++ q → q.length = m → iter (apostillelaw16_text_b1 s) ((p.length : Int), flt p) = some (flt s) := by
    intro m
    induction m with
    | zero =>
      intro p q h hq
      obtain rfl := List.length_eq_zero_iff.1 hq
      rw [List.append_nil] at h; subst h
      refine iter_inr ?_
      unfold apostillelaw16_text_b1
      simp
    | succ m ih =>
      intro p q h hq
      cases q with
      | nil => cases hq
      | cons b q =>
        have hl : s.length = p.length + (q.length + 1) := by rw [h]; simp
        have hp : s = (p ++ [b]) ++ q := by rw [h]; simp
        have hat : at' s (p.length : Int) = some b := by rw [at'_nat, h]; simp
        have hw : w64 ((p.length : Int) + 1) = ((p ++ [b]).length : Int) := by rw [w64_add1 (by omega)]; simp
        rw [← ih (p ++ [b]) q hp (by simpa using hq)]
        refine iter_inl ?_
        unfold apostillelaw16_text_b1
        have hfl : (flt p).length ≤ p.length := flt_length p
        have hdec : decide ((p.length : Int) < (s.length : Int)) = true := by simp; omega
        simp only [hdec, cond_true, hat, Option.bind_some, hw]
        by_cases h1 : decide ((b.toNat : Int) ≥ 32) = true
        · by_cases h2 : decide ((b.toNat : Int) < 128) = true
          · rw [h1, h2, app_of (by simp; omega)]
            have : flt (p ++ [b]) = flt p ++ [b] := by simp [flt, stays, h1, h2]
            rw [this]; rfl
          · simp only [Bool.not_eq_true] at h2
            rw [h1, h2]
            have : flt (p ++ [b]) = flt p := by simp [flt, stays, h1, h2]
            rw [this]; rfl
        · simp only [Bool.not_eq_true] at h1
          rw [h1]
          have : flt (p ++ [b]) = flt p := by simp [flt, stays, h1]
          rw [this]; rfl
  have := key s.length [] s rfl rfl
  have h0 : iter (apostillelaw16_text_b1 s) (0, []) = some (flt s) := this
  rw [h0]; rfl
def TT (s : Str) : TValue := TValue.mk 3 [] false 0 false s
theorem made_eq (s : Str) (hs : s.length ≤ 200) : apostillelaw16_Raw_Made (TRaw.mk 3 [] false 0 false s) [] = some (TT (flt s)) := by
  unfold apostillelaw16_Raw_Made
  show (apostillelaw16_text s).bind _ = _
  rw [text_eq s hs]; rfl
theorem asText (d : Option TDoc) (s : Str) : value_AsText d (TT s) = some s := rfl
theorem argText (x : TIndex) (p : TPlace) (args : List TValue) (i : Nat) (s : Str) (h : args[i]? = some (TT s)) : call_caller_text (TCaller.mk (some x) p args) (i : Int) = some s := by
  have hl := (List.getElem?_eq_some_iff.1 h).1
  unfold call_caller_text
  have h1 : decide ((i : Int) ≥ (args.length : Int)) = false := by simp; omega
  simp only [h1, cond_false, Option.bind_some, at'_nat, h, asText]
theorem ofText_eq (s : Str) : value_OfText s = some (TT s) := rfl
end G
