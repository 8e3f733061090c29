/-
  TEXTS OF BYTES BELOW 128, plain: their characters, a character written, characters as a text. No program, no memory. Conditions: none.
-/
import Derived.Test.YtipbfnjpfmmkfaaGreatDoorTCom
set_option maxRecDepth 20000
set_option linter.unusedVariables false
set_option linter.unusedSimpArgs false
namespace G
open W Go
def Asc (s : Str) : Prop := ∀ b ∈ s, b.toNat < 128
theorem asc_flt (s : Str) : Asc (flt s) := by
  intro b hb
  have := List.mem_filter.1 hb
  have h := this.2
  simp only [stays, Bool.and_eq_true, decide_eq_true_eq] at h
  omega
theorem Asc.app {s t : Str} (h : Asc s) (k : Asc t) : Asc (s ++ t) := fun b hb => (List.mem_append.1 hb).elim (h b) (k b)
def ord (b : UInt8) : Int := (b.toNat : Int)
theorem dec_asc {s : Str} (h : Asc s) {i : Nat} {b : UInt8} (hi : s[i]? = some b) : dec s i = (b.toNat, 1) := by
  have hb : b.toNat < 128 := h b (List.mem_of_getElem? hi)
  have hg : (s.getD i 0).toNat = b.toNat := by rw [List.getD_eq_getElem?_getD, hi]; rfl
  unfold dec
  simp only [Nat.add_zero, hg]
  rw [if_pos hb]
theorem runesW_asc (s : Str) (h : Asc s) : ∀ (m i : Nat), s.length - i ≤ m → runesW s m i = (s.drop i).map ord := by
  intro m
  induction m with
  | zero => intro i hi; rw [List.drop_of_length_le (by omega)]; rfl
  | succ m ih =>
    intro i hi
    rw [runesW]
    by_cases hl : i < s.length
    · rw [if_pos hl, dec_asc h (List.getElem?_eq_getElem hl), ih (i + 1) (by omega), List.drop_eq_getElem_cons hl]; rfl
    · rw [if_neg hl, List.drop_of_length_le (by omega)]; rfl
theorem runes_asc (s : Str) (h : Asc s) (hl : s.length ≤ 1000) : runes s = some (s.map ord) := by
  unfold runes
  rw [show decide (s.length ≤ 70368744177664) = true by simp; omega, runesW_asc s h _ _ (Nat.sub_le _ _)]; rfl
theorem enc_asc (b : UInt8) (hb : b.toNat < 128) : enc (ord b) = [b] := by
  have hv : W.validRune b.toNat = true := by unfold W.validRune; simp; omega
  unfold enc ord
  have hc : (if 0 ≤ (b.toNat : Int) ∧ W.validRune (b.toNat : Int).toNat = true then (b.toNat : Int).toNat else 65533) = b.toNat := by
    rw [if_pos ⟨Int.natCast_nonneg _, by simpa using hv⟩]; rfl
  simp only [hc]
  rw [if_pos hb]; simp
theorem encs_asc (s : Str) (h : Asc s) : encs (s.map ord) = s := by
  induction s with
  | nil => rfl
  | cons b r ih =>
    have e1 := enc_asc b (h b (by simp))
    have e2 := ih (fun c hc => h c (by simp [hc]))
    unfold encs at e2 ⊢
    rw [List.map_cons, List.flatMap_cons, e1, e2]; rfl
theorem u8_ord (b : UInt8) : u8 (ord b) = b := by
  unfold u8 ord
  have : b.toNat < 256 := b.toNat_lt
  rw [show ((b.toNat : Int) % 256).toNat = b.toNat by omega]; simp
theorem put_asc (p : Str) (b : UInt8) (hb : b.toNat < 128) (hl : p.length ≤ 1000) : utf8_AppendRune p (ord b) = some (p ++ [b]) := by
  unfold utf8_AppendRune
  have h1 : v32 (ord b) = (b.toNat : Int) := by unfold v32 ord wr; simp; omega
  rw [h1, show decide ((b.toNat : Int) ≤ 127) = true by simp; omega, u8_ord, app_of (by simp; omega)]; rfl
end G
