/-
  THE PLAIN WORDS, MORE: maps as lists of pairs; characters. No program, no memory. Conditions: none.
-/
import Derived.Test.YtipbfnjpfmmkfaaGreatDoorAbsPureS
set_option linter.unusedVariables false
namespace W
variable {κ ν : Type} [DecidableEq κ]
/-- What a key has. -/
def mget : List (κ × ν) → κ → Option ν
  | [], _ => none
  | (a, v) :: r, k => if k = a then some v else mget r k
/-- A key's value, put. -/
def mput : List (κ × ν) → κ → ν → List (κ × ν)
  | [], k, v => [(k, v)]
  | (a, x) :: r, k, v => if k = a then (k, v) :: r else (a, x) :: mput r k v
end W
namespace W
/-- A character's bytes. -/
def enc (r : Int) : Str :=
  let c := if 0 ≤ r ∧ validRune r.toNat = true then r.toNat else 0xFFFD
  if c < 0x80 then [UInt8.ofNat c]
  else if c < 0x800 then [UInt8.ofNat (0xC0 + c / 64), UInt8.ofNat (0x80 + c % 64)]
  else if c < 0x10000 then [UInt8.ofNat (0xE0 + c / 4096), UInt8.ofNat (0x80 + c / 64 % 64), UInt8.ofNat (0x80 + c % 64)]
  else [UInt8.ofNat (0xF0 + c / 262144), UInt8.ofNat (0x80 + c / 4096 % 64), UInt8.ofNat (0x80 + c / 64 % 64), UInt8.ofNat (0x80 + c % 64)]
def runesW (s : Str) : Nat → Nat → List Int
  | 0, _ => []
  | b + 1, i => if i < s.length then ((dec s i).1 : Int) :: runesW s b (i + (dec s i).2) else []
/-- A text's characters. -/
def runes (s : Str) : Option (List Int) := bif decide (s.length ≤ 70368744177664) then some (runesW s s.length 0) else none
/-- Characters as a text. -/
def encs (l : List Int) : Str := l.flatMap enc
/-- A text of a row is no longer than a text can be. -/
def unsf (l : Str) : Option Str := if l.length ≤ 9223372036854775807 then some l else none
theorem unsf_some {l v : Str} (h : unsf l = some v) : l.length ≤ 9223372036854775807 ∧ v = l := by
  unfold unsf at h
  split at h
  · cases h; exact ⟨by assumption, rfl⟩
  · cases h
/-- Division by what isn't 0. -/
def qv (m n : Int) : Option Int := if n = 0 then none else some (m.tdiv n)
theorem qv_some {m n v : Int} (h : qv m n = some v) : (n == 0) = false ∧ v = m.tdiv n := by
  unfold qv at h
  split at h
  · cases h
  · rename_i h0; cases h; exact ⟨by simpa using h0, rfl⟩
/-- A buffer of whatever bytes: how long it may be. -/
def mnz (n : Int) : Option Nat := if 0 ≤ n ∧ n ≤ 281474976710656 then some n.toNat else none
theorem mnz_some {n : Int} {v : Nat} (h : mnz n = some v) : (0 ≤ n ∧ n ≤ 281474976710656) ∧ v = n.toNat := by
  unfold mnz at h
  split at h
  · cases h; exact ⟨by assumption, rfl⟩
  · cases h
end W
