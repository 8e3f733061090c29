/-
  PLAIN LAWS: ValueTexts: a text is itself as a text; as a number it is what its text without blanks is. No program, no memory. Conditions: none.
-/
import Derived.Test.YtebcdmfekidfoaaDoorVRef
set_option linter.unusedVariables false
set_option linter.unusedSimpArgs false
namespace G
open W
theorem dropWhile_cons_blank (s : Str) : (32 :: s : Str).dropWhile blank = s.dropWhile blank := by
  rw [List.dropWhile_cons]
  simp [show blank 32 = true from rfl]
theorem trim_pad (s : Str) : trim (32 :: (s ++ [10])) = trim s := by
  unfold trim
  rw [dropWhile_cons_blank]
  by_cases h : ∀ x ∈ s, blank x = true
  · have h1 : (s ++ [10]).dropWhile blank = [] := (dropWhile_nil blank _).2 (fun x hx => by
      rcases List.mem_append.1 hx with hx | hx
      · exact h x hx
      · rw [List.mem_singleton.1 hx]; rfl)
    have h2 : s.dropWhile blank = [] := (dropWhile_nil blank _).2 h
    rw [h1, h2]
  · have h1 : (s ++ [10]).dropWhile blank = s.dropWhile blank ++ [10] := by
      rw [List.dropWhile_append, if_neg]
      intro hn
      exact h ((dropWhile_nil blank _).1 (by simpa using hn))
    rw [h1, trimR_snoc]
    rfl
theorem AsText_text (s : Str) : value_AsText none ⟨3, [], false, 0, false, s⟩ = some s := by
  unfold value_AsText
  rfl
theorem AsText_truth (b : Bool) : value_AsText none ⟨1, [], b, 0, false, []⟩ = some (bif b then [116, 114, 117, 101] else [102, 97, 108, 115, 101]) := by
  unfold value_AsText
  cases b <;> rfl
theorem AsNumber_text (s : Str) (h : Sh s) : value_AsNumber none ⟨3, [], false, 0, false, s⟩ = some (readD (signed (trim s)).1 (signed (trim s)).2) := by
  unfold value_AsNumber
  rw [AsText_text]
  simp only [Option.bind_some, Read_eq s h]
  rfl
theorem ValueTexts_eq (s : Str) (b : Bool) : apostillelaw16_ValueTexts s b = some true := by
  unfold apostillelaw16_ValueTexts
  rw [awake16]
  simp only [Option.bind_some, Bool.not_true, cond_false]
  by_cases h : 300 < s.length
  · rw [show decide ((s.length : Int) > 300) = true by simp; omega]; rfl
  · have hs : Sh s := by show s.length ≤ _; omega
    have hs2 : Sh (32 :: (s ++ [10])) := by show (32 :: (s ++ [10])).length ≤ _; simp; omega
    have hc1 : cat [32] s = some (32 :: s) := cat_of (by show 1 + s.length ≤ _; omega)
    have hc2 : cat (32 :: s) [10] = some (32 :: (s ++ [10])) := cat_of (by show (s.length + 1) + 1 ≤ _; omega)
    rw [show decide ((s.length : Int) > 300) = false by simp; omega]
    simp only [Option.bind_some, cond_false, value_OfText, value_OfTruth, value_None, AsNumber_text s hs, hc1, hc2, Read_eq _ hs2, trim_pad, AsText_text, AsText_truth, beq_self_eq_true, cond_true, Same_self _ (readD_set _ _)]
    have hb : value_Read (bif b then [116, 114, 117, 101] else [102, 97, 108, 115, 101]) = some (noV, 0) := by
      cases b with
      | true => exact (Read_eq _ (by decide)).trans rfl
      | false => exact (Read_eq _ (by decide)).trans rfl
    rw [hb]
    simp only [Option.bind_some]
    have e1 : value_Same noV ⟨2, [], false, 0, true, []⟩ = some true := Same_self noV rfl
    rw [e1]
    simp only [show ((noV, (0 : Int)).2 == 0) = true from rfl, cond_true, Option.bind_some]
    unfold value_AsTruth
    simp
end G
