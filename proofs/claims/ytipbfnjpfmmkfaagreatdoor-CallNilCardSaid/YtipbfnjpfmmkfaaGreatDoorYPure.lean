/-
  PLAIN FUNCTIONS, printed by aw.py: what the functions compute. No program, no memory. Conditions: none.
-/
import Derived.Test.YtipbfnjpfmmkfaaGreatDoorAbsPureC
import Derived.Lib.ItoaNum
import Derived.Lib.IndexMore
import Derived.Shelf.Strings.Replace
set_option linter.unusedVariables false
namespace G
open W
structure TAcceptRange where
  lo : UInt8
  hi : UInt8
structure TDecl where
  Prefix : Str
  URI : Str
structure TAttr where
  Prefix : Str
  Local : Str
  URI : Str
  Value : Str
structure TNode where
  Kind : Int
  Parent : Int
  Prefix : Str
  Local : Str
  URI : Str
  Text : Str
  Decls : (List TDecl)
  Attrs : (List TAttr)
structure TOpen_ where
  n : Int
  name : Str
structure TSpan where
  from_ : Int
  to : Int
def TSpan.ints (x : TSpan) : List Int := [x.from_, x.to]
def TSpan.eqb (x y : TSpan) : Bool := x.ints == y.ints
structure TNoCopy where

def TNoCopy.ints (x : TNoCopy) : List Int := []
def TNoCopy.eqb (x y : TNoCopy) : Bool := x.ints == y.ints
structure TBool where
  blank : TNoCopy
  v : Int
structure TMutex2 where
  state : Int
  sema : Int
def TMutex2.ints (x : TMutex2) : List Int := [x.state, x.sema]
def TMutex2.eqb (x y : TMutex2) : Bool := x.ints == y.ints
structure TMutex where
  blank : TNoCopy
  mu : TMutex2
structure TOnce where
  blank : TNoCopy
  done : TBool
  m : TMutex
structure TDoc where
  l : (List TNode)
  end_ : (List Int)
  top : Int
structure TIndex where
  Doc : (Option TDoc)
  ids : (List (Str × Int))
structure TPoint where
  N : Int
  Part : Int
  I : Int
def TPoint.ints (x : TPoint) : List Int := [x.N, x.Part, x.I]
def TPoint.eqb (x y : TPoint) : Bool := x.ints == y.ints
structure TValue where
  Kind : Int
  Set : (List TPoint)
  Bool_ : Bool
  N : Int
  NaN : Bool
  Text : Str
structure TShape where
  least : Int
  most : Int
  set_ : Bool
structure TPlace where
  P : TPoint
  Position : Int
  Size : Int
structure TCaller where
  x : (Option TIndex)
  at_ : TPlace
  args : (List TValue)
def utf8First : Str := [240, 240, 240, 240, 240, 240, 240, 240, 240, 240, 240, 240, 240, 240, 240, 240, 240, 240, 240, 240, 240, 240, 240, 240, 240, 240, 240, 240, 240, 240, 240, 240, 240, 240, 240, 240, 240, 240, 240, 240, 240, 240, 240, 240, 240, 240, 240, 240, 240, 240, 240, 240, 240, 240, 240, 240, 240, 240, 240, 240, 240, 240, 240, 240, 240, 240, 240, 240, 240, 240, 240, 240, 240, 240, 240, 240, 240, 240, 240, 240, 240, 240, 240, 240, 240, 240, 240, 240, 240, 240, 240, 240, 240, 240, 240, 240, 240, 240, 240, 240, 240, 240, 240, 240, 240, 240, 240, 240, 240, 240, 240, 240, 240, 240, 240, 240, 240, 240, 240, 240, 240, 240, 240, 240, 240, 240, 240, 240, 241, 241, 241, 241, 241, 241, 241, 241, 241, 241, 241, 241, 241, 241, 241, 241, 241, 241, 241, 241, 241, 241, 241, 241, 241, 241, 241, 241, 241, 241, 241, 241, 241, 241, 241, 241, 241, 241, 241, 241, 241, 241, 241, 241, 241, 241, 241, 241, 241, 241, 241, 241, 241, 241, 241, 241, 241, 241, 241, 241, 241, 241, 241, 241, 241, 241, 2, 2, 2, 2, 2, 2, 2, 2, 2, 2, 2, 2, 2, 2, 2, 2, 2, 2, 2, 2, 2, 2, 2, 2, 2, 2, 2, 2, 2, 2, 19, 3, 3, 3, 3, 3, 3, 3, 3, 3, 3, 3, 3, 35, 3, 3, 52, 4, 4, 4, 68, 241, 241, 241, 241, 241, 241, 241, 241, 241, 241, 241]
def utf8Ranges : List TAcceptRange := [⟨128, 191⟩, ⟨160, 191⟩, ⟨128, 159⟩, ⟨144, 191⟩, ⟨128, 143⟩, ⟨0, 0⟩, ⟨0, 0⟩, ⟨0, 0⟩, ⟨0, 0⟩, ⟨0, 0⟩, ⟨0, 0⟩, ⟨0, 0⟩, ⟨0, 0⟩, ⟨0, 0⟩, ⟨0, 0⟩, ⟨0, 0⟩]
noncomputable def utf8_word_byte (s : (List UInt8)) : Option Int :=
  (at' s 0).bind fun v1 => (at' s 1).bind fun v2 => (at' s 2).bind fun v3 => (at' s 3).bind fun v4 => (at' s 4).bind fun v5 => (at' s 5).bind fun v6 => (at' s 6).bind fun v7 => (at' s 7).bind fun v8 => some (v64 (bor 64 (v64 (bor 64 (v64 (bor 64 (v64 (bor 64 (v64 (bor 64 (v64 (bor 64 (v64 (bor 64 (v64 (v1.toNat : Int)) (v64 ((v64 (v2.toNat : Int)) * 2 ^ 8)))) (v64 ((v64 (v3.toNat : Int)) * 2 ^ 16)))) (v64 ((v64 (v4.toNat : Int)) * 2 ^ 24)))) (v64 ((v64 (v5.toNat : Int)) * 2 ^ 32)))) (v64 ((v64 (v6.toNat : Int)) * 2 ^ 40)))) (v64 ((v64 (v7.toNat : Int)) * 2 ^ 48)))) (v64 ((v64 (v8.toNat : Int)) * 2 ^ 56))))
noncomputable def utf8_Valid_b2 (y13 : (List UInt8)) : Option ((List UInt8) ⊕ (List UInt8)) :=
  (bif (decide ((y13.length : Int) > 32)) then (sub' y13 8 (y13.length : Int)).bind fun v14 => (sub' y13 16 (y13.length : Int)).bind fun v15 => (sub' y13 24 (y13.length : Int)).bind fun v16 => (utf8_word_byte y13).bind fun v17 => (utf8_word_byte v14).bind fun v18 => (utf8_word_byte v15).bind fun v19 => (utf8_word_byte v16).bind fun v20 => (bif ((v64 (band 64 (v64 (bor 64 (v64 (bor 64 v17 v18)) (v64 (bor 64 v19 v20)))) 9259542123273814144)) == 0) then (sub' y13 32 (y13.length : Int)).bind fun v21 => some (.inl v21) else some (.inr y13)) else some (.inr y13))
noncomputable def utf8_Valid_b1 (y2 : (List UInt8)) : Option ((List UInt8) ⊕ (Unit ⊕ Unit)) :=
  (bif (decide ((y2.length : Int) > 0)) then (at' y2 0).bind fun v3 => (bif (decide ((v3.toNat : Int) < 128)) then (sub' y2 1 (y2.length : Int)).bind fun v4 => ((bif (decide ((v4.length : Int) > 8)) then (utf8_word_byte v4).bind fun v5 => some ((v64 (band 64 v5 9259542123273814144)) == 0) else some false) : Option (Bool)).bind (fun (q6 : Bool) => (bif q6 then (sub' v4 8 (v4.length : Int)).bind fun v7 => ((bif (decide ((v7.length : Int) > 16)) then (sub' v7 8 (v7.length : Int)).bind fun v8 => (utf8_word_byte v7).bind fun v9 => (utf8_word_byte v8).bind fun v10 => some ((v64 (band 64 (v64 (bor 64 v9 v10)) 9259542123273814144)) == 0) else some false) : Option (Bool)).bind (fun (q11 : Bool) => (bif q11 then (sub' v7 16 (v7.length : Int)).bind fun v12 => (iter (utf8_Valid_b2) v12).bind (fun (q22 : (List UInt8)) => some (.inl q22)) else some (.inl v7))) else some (.inl v4))) else (at' utf8First (v3.toNat : Int)).bind fun v23 => (at' utf8Ranges ((u8 ((v23.toNat : Int).fdiv (2 ^ 4))).toNat : Int)).bind fun v24 => (bif ((w64 ((u8 (band 8 (v23.toNat : Int) 7)).toNat : Int)) == 2) then (bif (decide ((y2.length : Int) < 2)) then some (.inr (Sum.inl ())) else (at' y2 1).bind fun v25 => (bif (decide ((v25.toNat : Int) < (v24.lo.toNat : Int))) then some (.inr (Sum.inl ())) else (at' y2 1).bind fun v26 => (bif (decide ((v24.hi.toNat : Int) < (v26.toNat : Int))) then some (.inr (Sum.inl ())) else (sub' y2 2 (y2.length : Int)).bind fun v27 => some (.inl v27)))) else (bif ((w64 ((u8 (band 8 (v23.toNat : Int) 7)).toNat : Int)) == 3) then (bif (decide ((y2.length : Int) < 3)) then some (.inr (Sum.inl ())) else (at' y2 1).bind fun v28 => (bif (decide ((v28.toNat : Int) < (v24.lo.toNat : Int))) then some (.inr (Sum.inl ())) else (at' y2 1).bind fun v29 => (bif (decide ((v24.hi.toNat : Int) < (v29.toNat : Int))) then some (.inr (Sum.inl ())) else (at' y2 2).bind fun v30 => (bif (decide ((v30.toNat : Int) < 128)) then some (.inr (Sum.inl ())) else (at' y2 2).bind fun v31 => (bif (decide (191 < (v31.toNat : Int))) then some (.inr (Sum.inl ())) else (sub' y2 3 (y2.length : Int)).bind fun v32 => some (.inl v32)))))) else (bif ((w64 ((u8 (band 8 (v23.toNat : Int) 7)).toNat : Int)) == 4) then (bif (decide ((y2.length : Int) < 4)) then some (.inr (Sum.inl ())) else (at' y2 1).bind fun v33 => (bif (decide ((v33.toNat : Int) < (v24.lo.toNat : Int))) then some (.inr (Sum.inl ())) else (at' y2 1).bind fun v34 => (bif (decide ((v24.hi.toNat : Int) < (v34.toNat : Int))) then some (.inr (Sum.inl ())) else (at' y2 2).bind fun v35 => (bif (decide ((v35.toNat : Int) < 128)) then some (.inr (Sum.inl ())) else (at' y2 2).bind fun v36 => (bif (decide (191 < (v36.toNat : Int))) then some (.inr (Sum.inl ())) else (at' y2 3).bind fun v37 => (bif (decide ((v37.toNat : Int) < 128)) then some (.inr (Sum.inl ())) else (at' y2 3).bind fun v38 => (bif (decide (191 < (v38.toNat : Int))) then some (.inr (Sum.inl ())) else (sub' y2 4 (y2.length : Int)).bind fun v39 => some (.inl v39)))))))) else some (.inr (Sum.inl ())))))) else some (.inr (Sum.inr ())))
noncomputable def utf8_Valid (p : (List UInt8)) : Option Bool :=
  (sub3 p 0 (p.length : Int) (p.length : Int)).bind fun v1 => (iter (utf8_Valid_b1) v1).bind (Sum.elim (fun (q40 : Unit) => some false) (fun (q41 : Unit) => some true))
noncomputable def utf_Valid (b : (List UInt8)) : Option Bool :=
  (utf8_Valid b).bind fun v1 => some v1
noncomputable def utf8_decodeRuneSlow (p : (List UInt8)) : Option (Int × Int) :=
  (bif (decide ((p.length : Int) < 1)) then some (65533, 0) else (at' p 0).bind fun v1 => (at' utf8First (v1.toNat : Int)).bind fun v2 => (bif (decide ((v2.toNat : Int) ≥ 240)) then (at' p 0).bind fun v3 => some ((w32 (bor 32 (w32 (bandn 32 (w32 (v3.toNat : Int)) ((w32 ((w32 (v2.toNat : Int)) * 2 ^ 31)).fdiv (2 ^ 31)))) (w32 (band 32 65533 ((w32 ((w32 (v2.toNat : Int)) * 2 ^ 31)).fdiv (2 ^ 31)))))), 1) else (at' utf8Ranges ((u8 ((v2.toNat : Int).fdiv (2 ^ 4))).toNat : Int)).bind fun v4 => (bif (decide ((p.length : Int) < (w64 ((u8 (band 8 (v2.toNat : Int) 7)).toNat : Int)))) then some (65533, 1) else (at' p 1).bind fun v5 => ((bif (decide ((v5.toNat : Int) < (v4.lo.toNat : Int))) then some true else some (decide ((v4.hi.toNat : Int) < (v5.toNat : Int)))) : Option (Bool)).bind (fun (q6 : Bool) => (bif q6 then some (65533, 1) else (bif (decide ((w64 ((u8 (band 8 (v2.toNat : Int) 7)).toNat : Int)) ≤ 2)) then some ((w32 (bor 32 (w32 ((w32 ((u8 (band 8 (v1.toNat : Int) 31)).toNat : Int)) * 2 ^ 6)) (w32 ((u8 (band 8 (v5.toNat : Int) 63)).toNat : Int)))), 2) else (at' p 2).bind fun v7 => ((bif (decide ((v7.toNat : Int) < 128)) then some true else some (decide (191 < (v7.toNat : Int)))) : Option (Bool)).bind (fun (q8 : Bool) => (bif q8 then some (65533, 1) else (bif (decide ((w64 ((u8 (band 8 (v2.toNat : Int) 7)).toNat : Int)) ≤ 3)) then some ((w32 (bor 32 (w32 (bor 32 (w32 ((w32 ((u8 (band 8 (v1.toNat : Int) 15)).toNat : Int)) * 2 ^ 12)) (w32 ((w32 ((u8 (band 8 (v5.toNat : Int) 63)).toNat : Int)) * 2 ^ 6)))) (w32 ((u8 (band 8 (v7.toNat : Int) 63)).toNat : Int)))), 3) else (at' p 3).bind fun v9 => ((bif (decide ((v9.toNat : Int) < 128)) then some true else some (decide (191 < (v9.toNat : Int)))) : Option (Bool)).bind (fun (q10 : Bool) => (bif q10 then some (65533, 1) else some ((w32 (bor 32 (w32 (bor 32 (w32 (bor 32 (w32 ((w32 ((u8 (band 8 (v1.toNat : Int) 7)).toNat : Int)) * 2 ^ 18)) (w32 ((w32 ((u8 (band 8 (v5.toNat : Int) 63)).toNat : Int)) * 2 ^ 12)))) (w32 ((w32 ((u8 (band 8 (v7.toNat : Int) 63)).toNat : Int)) * 2 ^ 6)))) (w32 ((u8 (band 8 (v9.toNat : Int) 63)).toNat : Int)))), 4))))))))))))
noncomputable def utf8_DecodeRune_b1 (p : (List UInt8)) (y1 : Unit) : Option (Unit ⊕ (Int ⊕ Unit)) :=
  (bif (decide (0 < (p.length : Int))) then (at' p 0).bind fun v2 => (bif (decide ((v2.toNat : Int) < 128)) then some (.inr (Sum.inl (w32 (v2.toNat : Int)))) else some (.inr (Sum.inr ()))) else some (.inr (Sum.inr ())))
noncomputable def utf8_DecodeRune (p : (List UInt8)) : Option (Int × Int) :=
  (iter (utf8_DecodeRune_b1 p) ()).bind (Sum.elim (fun (q3 : Int) => some (q3, 1)) (fun (q4 : Unit) => (utf8_decodeRuneSlow p).bind fun v5 => some (v5.1, v5.2)))
noncomputable def utf_Chars_b1 (b : (List UInt8)) (y2 : Int × (List Int)) : Option ((Int × (List Int)) ⊕ (List Int)) :=
  (bif (decide (y2.1 < (b.length : Int))) then (sub' b y2.1 (b.length : Int)).bind fun v3 => (utf8_DecodeRune v3).bind fun v4 => (app 4 y2.2 [v4.1]).bind fun v5 => some (.inl ((w64 (y2.1 + v4.2)), v5)) else some (.inr y2.2))
noncomputable def utf_Chars (b : (List UInt8)) : Option ((List Int) × Bool) :=
  (utf_Valid b).bind fun v1 => (bif (!v1) then some ([], false) else (iter (utf_Chars_b1 b) (0, [])).bind (fun (q6 : (List Int)) => some (q6, true)))
noncomputable def utf_Xml (r_ : Int) : Option Bool :=
  ((bif (r_ == 9) then (bif (r_ == 9) then some (Sum.inl ()) else some (Sum.inr ())) else (bif (r_ == 10) then (bif (r_ == 10) then some (Sum.inl ()) else some (Sum.inr ())) else (bif (r_ == 13) then some (Sum.inl ()) else some (Sum.inr ())))) : Option (Unit ⊕ Unit)).bind (Sum.elim (fun (q1 : Unit) => some true) (fun (q2 : Unit) => (bif (decide (r_ ≥ 32)) then (bif (decide (r_ ≤ 55295)) then some true else (bif (decide (r_ ≥ 57344)) then (bif (decide (r_ ≤ 65533)) then some true else (bif (decide (r_ ≥ 65536)) then some (decide (r_ ≤ 1114111)) else some false)) else (bif (decide (r_ ≥ 65536)) then some (decide (r_ ≤ 1114111)) else some false))) else (bif (decide (r_ ≥ 57344)) then (bif (decide (r_ ≤ 65533)) then some true else (bif (decide (r_ ≥ 65536)) then some (decide (r_ ≤ 1114111)) else some false)) else (bif (decide (r_ ≥ 65536)) then some (decide (r_ ≤ 1114111)) else some false)))))
noncomputable def utf_Text_b1 (v1 : (List Int) × Bool) (y2 : Bool × Int) : Option ((Bool × Int) ⊕ Bool) :=
  (bif (decide (y2.2 < (v1.1.length : Int))) then (at' v1.1 y2.2).bind fun v3 => (bif y2.1 then (utf_Xml v3).bind fun v4 => some (.inl (v4, (w64 (y2.2 + 1)))) else some (.inl (false, (w64 (y2.2 + 1))))) else some (.inr y2.1))
noncomputable def utf_Text (b : (List UInt8)) : Option Bool :=
  (utf_Chars b).bind fun v1 => (iter (utf_Text_b1 v1) (v1.2, 0)).bind (fun (q5 : Bool) => some q5)
noncomputable def strings_Count (s : Str) (sep : Str) : Option Int :=
  bif decide (s.length < 4294967281 ∧ 1 ≤ sep.length) then some ((Go.Lib.countB ⟨s.toArray⟩ ⟨sep.toArray⟩ : Int)) else none
noncomputable def stringslite_Index (s : Str) (sep : Str) : Option Int :=
  bif decide (s.length < 4294967281) then some (Go.Lib.index s sep) else none
noncomputable def strings_Index (s : Str) (substr : Str) : Option Int :=
  (stringslite_Index s substr).bind fun v1 => some v1
noncomputable def strings_Replace (s : Str) (old : Str) (new : Str) (n : Int) : Option Str :=
  ((bif (old == new) then some true else some (n == 0)) : Option (Bool)).bind (fun (q1 : Bool) => (bif q1 then some s else (strings_Count s old).bind fun v2 => (bif (v2 == 0) then some s else ((bif (decide (n < 0)) then some true else some (decide (v2 < n))) : Option (Bool)).bind (fun (q3 : Bool) => none))))
noncomputable def strings_ReplaceAll (s : Str) (old : Str) (new : Str) : Option Str :=
  (strings_Replace s old new (-1)).bind fun v1 => some v1
noncomputable def chars_Lines (s : Str) : Option Str :=
  (strings_ReplaceAll s [13, 10] [10]).bind fun v1 => (strings_ReplaceAll v1 [13] [10]).bind fun v2 => some v2
noncomputable def name_Blank (c : UInt8) : Option Bool :=
  (bif ((c.toNat : Int) == 32) then some true else (bif ((c.toNat : Int) == 9) then some true else (bif ((c.toNat : Int) == 10) then some true else some ((c.toNat : Int) == 13))))
noncomputable def stringslite_HasPrefix (s : Str) (prefix_ : Str) : Option Bool :=
  (bif (decide ((s.length : Int) ≥ (prefix_.length : Int))) then (sub' s 0 (prefix_.length : Int)).bind fun v1 => some (v1 == prefix_) else some false)
noncomputable def strings_HasPrefix (s : Str) (prefix_ : Str) : Option Bool :=
  (stringslite_HasPrefix s prefix_).bind fun v1 => some v1
noncomputable def stringslite_CutPrefix (s : Str) (prefix_ : Str) : Option (Str × Bool) :=
  (stringslite_HasPrefix s prefix_).bind fun v1 => (bif (!v1) then some (s, false) else (sub' s (prefix_.length : Int) (s.length : Int)).bind fun v2 => some (v2, true))
noncomputable def strings_CutPrefix (s : Str) (prefix_ : Str) : Option (Str × Bool) :=
  (stringslite_CutPrefix s prefix_).bind fun v1 => some (v1.1, v1.2)
noncomputable def strings_Contains (s : Str) (substr : Str) : Option Bool :=
  (strings_Index s substr).bind fun v1 => some (decide (v1 ≥ 0))
noncomputable def stringslite_Cut (s : Str) (sep : Str) : Option (Str × Str × Bool) :=
  (stringslite_Index s sep).bind fun v1 => (bif (decide (v1 ≥ 0)) then (sub' s 0 v1).bind fun v2 => (sub' s (w64 (v1 + (sep.length : Int))) (s.length : Int)).bind fun v3 => some (v2, v3, true) else some (s, [], false))
noncomputable def strings_Cut (s : Str) (sep : Str) : Option (Str × Str × Bool) :=
  (stringslite_Cut s sep).bind fun v1 => some (v1.1, v1.2.1, v1.2.2)
noncomputable def parse_fold_b1 (s : Str) (y1 : Int × (List UInt8)) : Option ((Int × (List UInt8)) ⊕ (List UInt8)) :=
  (bif (decide (y1.1 < (s.length : Int))) then (at' y1.2 y1.1).bind fun v2 => (bif (decide ((v2.toNat : Int) ≥ 65)) then (bif (decide ((v2.toNat : Int) ≤ 90)) then (at' y1.2 y1.1).bind fun v3 => (put y1.2 y1.1 ((v2 + 97) - 65)).bind fun v4 => some (.inl ((w64 (y1.1 + 1)), v4)) else some (.inl ((w64 (y1.1 + 1)), y1.2))) else some (.inl ((w64 (y1.1 + 1)), y1.2))) else some (.inr y1.2))
noncomputable def parse_fold (s : Str) : Option Str :=
  (iter (parse_fold_b1 s) (0, s)).bind (fun (q5 : (List UInt8)) => some q5)
noncomputable def name_in_b1 (r_ : Int) (l : (List TSpan)) (y1 : Int) : Option (Int ⊕ (Unit ⊕ Unit)) :=
  (bif (decide (y1 < (l.length : Int))) then (at' l y1).bind fun v2 => (bif (decide (r_ ≥ v2.from_)) then (bif (decide (r_ ≤ v2.to)) then some (.inr (Sum.inl ())) else some (.inl (w64 (y1 + 1)))) else some (.inl (w64 (y1 + 1)))) else some (.inr (Sum.inr ())))
noncomputable def name_in (r_ : Int) (l : (List TSpan)) : Option Bool :=
  (iter (name_in_b1 r_ l) 0).bind (Sum.elim (fun (q3 : Unit) => some true) (fun (q4 : Unit) => some false))
noncomputable def name_Begins (r_ : Int) : Option Bool :=
  (bif (r_ == 95) then some true else (name_in r_ [(TSpan.mk 65 90), (TSpan.mk 97 122), (TSpan.mk 192 214), (TSpan.mk 216 246), (TSpan.mk 248 767), (TSpan.mk 880 893), (TSpan.mk 895 8191), (TSpan.mk 8204 8205), (TSpan.mk 8304 8591), (TSpan.mk 11264 12271), (TSpan.mk 12289 55295), (TSpan.mk 63744 64975), (TSpan.mk 65008 65533), (TSpan.mk 65536 983039)]).bind fun v1 => some v1)
noncomputable def name_Stands (r_ : Int) : Option Bool :=
  (name_Begins r_).bind fun v1 => (bif v1 then some true else (bif (r_ == 45) then some true else (bif (r_ == 46) then some true else (bif (r_ == 183) then some true else (name_in r_ [(TSpan.mk 48 57), (TSpan.mk 768 879), (TSpan.mk 8255 8256)]).bind fun v2 => some v2))))
noncomputable def name_Is_b1 (v1 : (List Int) × Bool) (y4 : Int) : Option (Int ⊕ (Unit ⊕ Unit)) :=
  (bif (decide (y4 < (v1.1.length : Int))) then (at' v1.1 y4).bind fun v5 => (name_Stands v5).bind fun v6 => (bif (!v6) then some (.inr (Sum.inl ())) else some (.inl (w64 (y4 + 1)))) else some (.inr (Sum.inr ())))
noncomputable def name_Is (s : Str) : Option Bool :=
  (utf_Chars s).bind fun v1 => (bif (!v1.2) then some false else (bif ((v1.1.length : Int) == 0) then some false else (at' v1.1 0).bind fun v2 => (name_Begins v2).bind fun v3 => (bif (!v3) then some false else (iter (name_Is_b1 v1) 0).bind (Sum.elim (fun (q7 : Unit) => some false) (fun (q8 : Unit) => some true)))))
noncomputable def name_Split (s : Str) : Option (Str × Str × Bool) :=
  (strings_Cut s [58]).bind fun v1 => (bif (!v1.2.2) then (bif v1.2.2 then (name_Is []).bind fun v2 => (bif (!v2) then some ([], [], false) else (name_Is s).bind fun v3 => (bif (!v3) then some ([], [], false) else some ([], s, true))) else (name_Is s).bind fun v4 => (bif (!v4) then some ([], [], false) else some ([], s, true))) else (bif v1.2.2 then (name_Is v1.1).bind fun v5 => (bif (!v5) then some ([], [], false) else (name_Is v1.2.1).bind fun v6 => (bif (!v6) then some ([], [], false) else some (v1.1, v1.2.1, true))) else (name_Is v1.2.1).bind fun v7 => (bif (!v7) then some ([], [], false) else some (v1.1, v1.2.1, true))))
noncomputable def stringslite_IndexByte (s : Str) (c : UInt8) : Option Int :=
  some (indexByte s c)
noncomputable def strings_IndexByte (s : Str) (c : UInt8) : Option Int :=
  (stringslite_IndexByte s c).bind fun v1 => some v1
noncomputable def name_Trim_b1 (y1 : Str) : Option (Str ⊕ Str) :=
  (bif (!(y1 == [])) then (at' y1 0).bind fun v2 => (name_Blank v2).bind fun v3 => (bif v3 then (sub' y1 1 (y1.length : Int)).bind fun v4 => some (.inl v4) else some (.inr y1)) else some (.inr y1))
noncomputable def name_Trim_b2 (y6 : Str) : Option (Str ⊕ Str) :=
  (bif (!(y6 == [])) then (at' y6 (w64 ((y6.length : Int) - 1))).bind fun v7 => (name_Blank v7).bind fun v8 => (bif v8 then (sub' y6 0 (w64 ((y6.length : Int) - 1))).bind fun v9 => some (.inl v9) else some (.inr y6)) else some (.inr y6))
noncomputable def name_Trim (s : Str) : Option Str :=
  (iter (name_Trim_b1) s).bind (fun (q5 : Str) => (iter (name_Trim_b2) q5).bind (fun (q10 : Str) => some q10))
noncomputable def doc_bare (x : TNode) : Option Bool :=
  (bif (x.Prefix == []) then (bif (x.URI == []) then (bif ((x.Decls.length : Int) == 0) then some ((x.Attrs.length : Int) == 0) else some false) else some false) else some false)
noncomputable def doc_stands_b1 (l : (List TNode)) (n : Int) (y1 : Int) : Option (Int ⊕ (Bool ⊕ Unit)) :=
  (bif (decide (y1 ≥ 0)) then (at' l n).bind fun v2 => (bif (y1 == v2.Parent) then (at' l y1).bind fun v3 => (bif (v3.Kind == 0) then some (.inr (Sum.inl true)) else (at' l y1).bind fun v4 => some (.inr (Sum.inl (v4.Kind == 1)))) else (at' l y1).bind fun v5 => some (.inl v5.Parent)) else some (.inr (Sum.inr ())))
noncomputable def doc_stands (l : (List TNode)) (n : Int) : Option Bool :=
  (iter (doc_stands_b1 l n) (w64 (n - 1))).bind (Sum.elim (fun (q6 : Bool) => some q6) (fun (q7 : Unit) => some false))
noncomputable def doc_declared_c1 (o : TDecl) (p1 : TDecl) : Option Bool :=
  some (o.Prefix == p1.Prefix)
noncomputable def slices_IndexFunc_Decl_b1 (s : (List TDecl)) (f : (TDecl → Option Bool)) (y1 : Int) : Option (Int ⊕ (Int ⊕ Unit)) :=
  (bif (decide (y1 < (s.length : Int))) then (at' s y1).bind fun v2 => (f v2).bind fun v3 => (bif v3 then some (.inr (Sum.inl y1)) else some (.inl (w64 (y1 + 1)))) else some (.inr (Sum.inr ())))
noncomputable def slices_IndexFunc_Decl (s : (List TDecl)) (f : (TDecl → Option Bool)) : Option Int :=
  (iter (slices_IndexFunc_Decl_b1 s f) 0).bind (Sum.elim (fun (q4 : Int) => some q4) (fun (q5 : Unit) => some (-1)))
noncomputable def slices_ContainsFunc_Decl (s : (List TDecl)) (f : (TDecl → Option Bool)) : Option Bool :=
  (slices_IndexFunc_Decl s f).bind fun v1 => some (decide (v1 ≥ 0))
noncomputable def doc_prefix (s : Str) : Option Bool :=
  (bif (s == []) then some true else (name_Is s).bind fun v1 => some v1)
noncomputable def doc_text (s : Str) : Option Bool :=
  (utf_Text s).bind fun v1 => some v1
noncomputable def doc_declared_b1 (l : (List TDecl)) (y1 : Int) : Option (Int ⊕ (Unit ⊕ Unit)) :=
  (bif (decide (y1 < (l.length : Int))) then (at' l y1).bind fun v2 => (sub' l 0 y1).bind fun v3 => (slices_ContainsFunc_Decl v3 (fun x0 => doc_declared_c1 x0 v2)).bind fun v4 => (bif v4 then some (.inr (Sum.inl ())) else (doc_prefix v2.Prefix).bind fun v5 => (bif (!v5) then some (.inr (Sum.inl ())) else (bif (v2.Prefix == [120, 109, 108, 110, 115]) then some (.inr (Sum.inl ())) else (doc_text v2.URI).bind fun v6 => (bif (!v6) then some (.inr (Sum.inl ())) else (bif (v2.URI == []) then (bif (!(v2.Prefix == [])) then some (.inr (Sum.inl ())) else (bif (!((v2.Prefix == [120, 109, 108]) == (v2.URI == [104, 116, 116, 112, 58, 47, 47, 119, 119, 119, 46, 119, 51, 46, 111, 114, 103, 47, 88, 77, 76, 47, 49, 57, 57, 56, 47, 110, 97, 109, 101, 115, 112, 97, 99, 101]))) then some (.inr (Sum.inl ())) else (bif (v2.URI == [104, 116, 116, 112, 58, 47, 47, 119, 119, 119, 46, 119, 51, 46, 111, 114, 103, 47, 50, 48, 48, 48, 47, 120, 109, 108, 110, 115, 47]) then some (.inr (Sum.inl ())) else some (.inl (w64 (y1 + 1)))))) else (bif (!((v2.Prefix == [120, 109, 108]) == (v2.URI == [104, 116, 116, 112, 58, 47, 47, 119, 119, 119, 46, 119, 51, 46, 111, 114, 103, 47, 88, 77, 76, 47, 49, 57, 57, 56, 47, 110, 97, 109, 101, 115, 112, 97, 99, 101]))) then some (.inr (Sum.inl ())) else (bif (v2.URI == [104, 116, 116, 112, 58, 47, 47, 119, 119, 119, 46, 119, 51, 46, 111, 114, 103, 47, 50, 48, 48, 48, 47, 120, 109, 108, 110, 115, 47]) then some (.inr (Sum.inl ())) else some (.inl (w64 (y1 + 1)))))))))) else some (.inr (Sum.inr ())))
noncomputable def doc_declared (l : (List TDecl)) : Option Bool :=
  (iter (doc_declared_b1 l) 0).bind (Sum.elim (fun (q7 : Unit) => some false) (fun (q8 : Unit) => some true))
noncomputable def doc_means_b2 (p : Str) (v2 : TNode) (y3 : Int) : Option (Int ⊕ (Str ⊕ Unit)) :=
  (bif (decide (y3 < (v2.Decls.length : Int))) then (at' v2.Decls y3).bind fun v4 => (bif (v4.Prefix == p) then some (.inr (Sum.inl v4.URI)) else some (.inl (w64 (y3 + 1)))) else some (.inr (Sum.inr ())))
noncomputable def doc_means_b1 (l : (List TNode)) (p : Str) (y1 : Int) : Option (Int ⊕ (Str ⊕ Unit)) :=
  (bif (decide (y1 > 0)) then (at' l y1).bind fun v2 => (iter (doc_means_b2 p v2) 0).bind (Sum.elim (fun (q5 : Str) => some (.inr (Sum.inl q5))) (fun (q6 : Unit) => (at' l y1).bind fun v7 => some (.inl v7.Parent))) else some (.inr (Sum.inr ())))
noncomputable def doc_means (l : (List TNode)) (n : Int) (p : Str) : Option (Str × Bool) :=
  (bif (p == [120, 109, 108]) then some ([104, 116, 116, 112, 58, 47, 47, 119, 119, 119, 46, 119, 51, 46, 111, 114, 103, 47, 88, 77, 76, 47, 49, 57, 57, 56, 47, 110, 97, 109, 101, 115, 112, 97, 99, 101], true) else (iter (doc_means_b1 l p) n).bind (Sum.elim (fun (q8 : Str) => some (q8, true)) (fun (q9 : Unit) => some ([], (p == [])))))
noncomputable def doc_named_c1 (o : TAttr) (p1 : TAttr) : Option Bool :=
  (bif (o.Local == p1.Local) then some (o.URI == p1.URI) else some false)
noncomputable def slices_IndexFunc_Attr_b1 (s : (List TAttr)) (f : (TAttr → Option Bool)) (y1 : Int) : Option (Int ⊕ (Int ⊕ Unit)) :=
  (bif (decide (y1 < (s.length : Int))) then (at' s y1).bind fun v2 => (f v2).bind fun v3 => (bif v3 then some (.inr (Sum.inl y1)) else some (.inl (w64 (y1 + 1)))) else some (.inr (Sum.inr ())))
noncomputable def slices_IndexFunc_Attr (s : (List TAttr)) (f : (TAttr → Option Bool)) : Option Int :=
  (iter (slices_IndexFunc_Attr_b1 s f) 0).bind (Sum.elim (fun (q4 : Int) => some q4) (fun (q5 : Unit) => some (-1)))
noncomputable def slices_ContainsFunc_Attr (s : (List TAttr)) (f : (TAttr → Option Bool)) : Option Bool :=
  (slices_IndexFunc_Attr s f).bind fun v1 => some (decide (v1 ≥ 0))
noncomputable def doc_named_b1 (l : (List TNode)) (n : Int) (v1 : TNode) (y6 : Int) : Option (Int ⊕ (Unit ⊕ Unit)) :=
  (bif (decide (y6 < (v1.Attrs.length : Int))) then (at' v1.Attrs y6).bind fun v7 => (doc_means l n v7.Prefix).bind fun v8 => (bif (v7.Prefix == []) then (sub' v1.Attrs 0 y6).bind fun v9 => (slices_ContainsFunc_Attr v9 (fun x0 => doc_named_c1 x0 v7)).bind fun v10 => (bif v10 then some (.inr (Sum.inl ())) else (bif (!v8.2) then some (.inr (Sum.inl ())) else (bif (!([] == v7.URI)) then some (.inr (Sum.inl ())) else (name_Is v7.Local).bind fun v11 => (bif (!v11) then some (.inr (Sum.inl ())) else (doc_prefix v7.Prefix).bind fun v12 => (bif (!v12) then some (.inr (Sum.inl ())) else (bif (v7.Prefix == [120, 109, 108, 110, 115]) then some (.inr (Sum.inl ())) else (bif (v7.Prefix == []) then (bif (v7.Local == [120, 109, 108, 110, 115]) then some (.inr (Sum.inl ())) else (doc_text v7.Value).bind fun v13 => (bif (!v13) then some (.inr (Sum.inl ())) else some (.inl (w64 (y6 + 1))))) else (doc_text v7.Value).bind fun v14 => (bif (!v14) then some (.inr (Sum.inl ())) else some (.inl (w64 (y6 + 1))))))))))) else (sub' v1.Attrs 0 y6).bind fun v15 => (slices_ContainsFunc_Attr v15 (fun x0 => doc_named_c1 x0 v7)).bind fun v16 => (bif v16 then some (.inr (Sum.inl ())) else (bif (!v8.2) then some (.inr (Sum.inl ())) else (bif (!(v8.1 == v7.URI)) then some (.inr (Sum.inl ())) else (name_Is v7.Local).bind fun v17 => (bif (!v17) then some (.inr (Sum.inl ())) else (doc_prefix v7.Prefix).bind fun v18 => (bif (!v18) then some (.inr (Sum.inl ())) else (bif (v7.Prefix == [120, 109, 108, 110, 115]) then some (.inr (Sum.inl ())) else (bif (v7.Prefix == []) then (bif (v7.Local == [120, 109, 108, 110, 115]) then some (.inr (Sum.inl ())) else (doc_text v7.Value).bind fun v19 => (bif (!v19) then some (.inr (Sum.inl ())) else some (.inl (w64 (y6 + 1))))) else (doc_text v7.Value).bind fun v20 => (bif (!v20) then some (.inr (Sum.inl ())) else some (.inl (w64 (y6 + 1)))))))))))) else some (.inr (Sum.inr ())))
noncomputable def doc_named (l : (List TNode)) (n : Int) : Option Bool :=
  (at' l n).bind fun v1 => (doc_means l n v1.Prefix).bind fun v2 => ((bif (!v2.2) then some true else (bif (!(v2.1 == v1.URI)) then some true else (name_Is v1.Local).bind fun v3 => (bif (!v3) then some true else (doc_prefix v1.Prefix).bind fun v4 => (bif (!v4) then some true else some (v1.Prefix == [120, 109, 108, 110, 115]))))) : Option (Bool)).bind (fun (q5 : Bool) => (bif q5 then some false else (iter (doc_named_b1 l n v1) 0).bind (Sum.elim (fun (q21 : Unit) => some false) (fun (q22 : Unit) => some true))))
noncomputable def stringslite_HasSuffix (s : Str) (suffix : Str) : Option Bool :=
  (bif (decide ((s.length : Int) ≥ (suffix.length : Int))) then (sub' s (w64 ((s.length : Int) - (suffix.length : Int))) (s.length : Int)).bind fun v1 => some (v1 == suffix) else some false)
noncomputable def strings_HasSuffix (s : Str) (suffix : Str) : Option Bool :=
  (stringslite_HasSuffix s suffix).bind fun v1 => some v1
noncomputable def doc_target (s : Str) : Option Bool :=
  (bif ((s.length : Int) == 3) then (at' s 0).bind fun v1 => (bif ((v1.toNat : Int) == 120) then (at' s 1).bind fun v2 => (bif ((v2.toNat : Int) == 109) then (at' s 2).bind fun v3 => (bif ((v3.toNat : Int) == 108) then some true else (at' s 2).bind fun v4 => some ((v4.toNat : Int) == 76)) else (at' s 1).bind fun v5 => (bif ((v5.toNat : Int) == 77) then (at' s 2).bind fun v6 => (bif ((v6.toNat : Int) == 108) then some true else (at' s 2).bind fun v7 => some ((v7.toNat : Int) == 76)) else some false)) else (at' s 0).bind fun v8 => (bif ((v8.toNat : Int) == 88) then (at' s 1).bind fun v9 => (bif ((v9.toNat : Int) == 109) then (at' s 2).bind fun v10 => (bif ((v10.toNat : Int) == 108) then some true else (at' s 2).bind fun v11 => some ((v11.toNat : Int) == 76)) else (at' s 1).bind fun v12 => (bif ((v12.toNat : Int) == 77) then (at' s 2).bind fun v13 => (bif ((v13.toNat : Int) == 108) then some true else (at' s 2).bind fun v14 => some ((v14.toNat : Int) == 76)) else some false)) else some false)) else some false)
noncomputable def doc_formed (l : (List TNode)) (n : Int) (last : Int) : Option Bool :=
  (at' l n).bind fun v1 => (bif (v1.Kind == 1) then (bif (v1.Text == []) then (doc_declared v1.Decls).bind fun v2 => (bif v2 then (doc_named l n).bind fun v3 => some v3 else some false) else some false) else (bif (v1.Kind == 2) then (doc_bare v1).bind fun v4 => (bif v4 then (bif (v1.Local == []) then (bif (!(v1.Text == [])) then (doc_text v1.Text).bind fun v5 => (bif v5 then (bif (decide (last < 0)) then some true else (at' l last).bind fun v6 => some (v6.Kind != 2)) else some false) else some false) else some false) else some false) else (bif (v1.Kind == 3) then (doc_bare v1).bind fun v7 => (bif v7 then (bif (v1.Local == []) then (doc_text v1.Text).bind fun v8 => (bif v8 then (strings_Contains v1.Text [45, 45]).bind fun v9 => (bif (!v9) then (strings_HasSuffix v1.Text [45]).bind fun v10 => some (!v10) else some false) else some false) else some false) else some false) else (bif (v1.Kind == 4) then ((bif (!(v1.Text == [])) then (at' v1.Text 0).bind fun v11 => (name_Blank v11).bind fun v12 => some v12 else some false) : Option (Bool)).bind (fun (q13 : Bool) => (doc_bare v1).bind fun v14 => (bif v14 then (name_Is v1.Local).bind fun v15 => (bif v15 then (doc_target v1.Local).bind fun v16 => (bif (!v16) then (doc_text v1.Text).bind fun v17 => (bif v17 then (strings_Contains v1.Text [63, 62]).bind fun v18 => (bif (!v18) then some (!q13) else some false) else some false) else some false) else some false) else some false)) else some false))))
noncomputable def doc_under (x : TNode) : Option Bool :=
  (bif (x.Parent != 0) then some true else some (x.Kind != 2))
noncomputable def doc_check_b1 (v8 : (List Int)) (y9 : Int × (List Int)) : Option ((Int × (List Int)) ⊕ (List Int)) :=
  (bif (decide (y9.1 < (v8.length : Int))) then (at' y9.2 y9.1).bind fun v10 => (put y9.2 y9.1 (-1)).bind fun v11 => some (.inl ((w64 (y9.1 + 1)), v11)) else some (.inr y9.2))
noncomputable def doc_check_b2 (l : (List TNode)) (y13 : Int × Int × (List Int)) : Option ((Int × Int × (List Int)) ⊕ (Unit ⊕ Int)) :=
  (bif (decide (y13.2.1 < (l.length : Int))) then ((doc_stands l y13.2.1).bind fun v14 => (bif (!v14) then some true else (at' l y13.2.1).bind fun v15 => (at' y13.2.2 v15.Parent).bind fun v16 => (doc_formed l y13.2.1 v16).bind fun v17 => (bif (!v17) then some true else (at' l y13.2.1).bind fun v18 => (doc_under v18).bind fun v19 => some (!v19))) : Option (Bool)).bind (fun (q20 : Bool) => (bif q20 then some (.inr (Sum.inl ())) else (at' l y13.2.1).bind fun v21 => (bif (v21.Parent == 0) then (at' l y13.2.1).bind fun v22 => (bif (v22.Kind == 1) then (bif (decide (y13.1 > 0)) then some (.inr (Sum.inl ())) else (at' l y13.2.1).bind fun v23 => (at' y13.2.2 v23.Parent).bind fun v24 => (put y13.2.2 v23.Parent y13.2.1).bind fun v25 => some (.inl (y13.2.1, (w64 (y13.2.1 + 1)), v25))) else (at' l y13.2.1).bind fun v26 => (at' y13.2.2 v26.Parent).bind fun v27 => (put y13.2.2 v26.Parent y13.2.1).bind fun v28 => some (.inl (y13.1, (w64 (y13.2.1 + 1)), v28))) else (at' l y13.2.1).bind fun v29 => (at' y13.2.2 v29.Parent).bind fun v30 => (put y13.2.2 v29.Parent y13.2.1).bind fun v31 => some (.inl (y13.1, (w64 (y13.2.1 + 1)), v31))))) else some (.inr (Sum.inr y13.1)))
noncomputable def doc_check (l : (List TNode)) : Option (Int × Bool) :=
  ((bif ((l.length : Int) == 0) then some true else (at' l 0).bind fun v1 => (bif (v1.Kind != 0) then some true else (at' l 0).bind fun v2 => (bif (v2.Parent != (-1)) then some true else (at' l 0).bind fun v3 => (doc_bare v3).bind fun v4 => (bif (!v4) then some true else (at' l 0).bind fun v5 => (bif (!(v5.Local == [])) then some true else (at' l 0).bind fun v6 => some (!(v6.Text == []))))))) : Option (Bool)).bind (fun (q7 : Bool) => (bif q7 then some (0, false) else (mk 8 (l.length : Int) 0).bind fun v8 => (iter (doc_check_b1 v8) (0, v8)).bind (fun (q12 : (List Int)) => (iter (doc_check_b2 l) (0, 1, q12)).bind (Sum.elim (fun (q32 : Unit) => some (0, false)) (fun (q33 : Int) => some (q33, (decide (q33 > 0))))))))
noncomputable def doc_within_b1 (l : (List TNode)) (y2 : Int × (List Int)) : Option ((Int × (List Int)) ⊕ (Unit ⊕ Unit)) :=
  (bif (decide (y2.1 < (l.length : Int))) then (at' l y2.1).bind fun v3 => (bif (decide (y2.1 > 0)) then (at' y2.2 v3.Parent).bind fun v4 => (at' y2.2 y2.1).bind fun v5 => (put y2.2 y2.1 (w64 (v4 + 1))).bind fun v6 => (at' v6 y2.1).bind fun v7 => (bif (decide (v7 > 64)) then some (.inr (Sum.inl ())) else (bif (decide ((w64 ((v3.Decls.length : Int) + (v3.Attrs.length : Int))) > 64)) then some (.inr (Sum.inl ())) else some (.inl ((w64 (y2.1 + 1)), v6)))) else (at' y2.2 y2.1).bind fun v8 => (bif (decide (v8 > 64)) then some (.inr (Sum.inl ())) else (bif (decide ((w64 ((v3.Decls.length : Int) + (v3.Attrs.length : Int))) > 64)) then some (.inr (Sum.inl ())) else some (.inl ((w64 (y2.1 + 1)), y2.2))))) else some (.inr (Sum.inr ())))
noncomputable def doc_within (l : (List TNode)) : Option Bool :=
  (bif (decide ((l.length : Int) > 4000)) then some false else (mk 8 (l.length : Int) 0).bind fun v1 => (iter (doc_within_b1 l) (0, v1)).bind (Sum.elim (fun (q9 : Unit) => some false) (fun (q10 : Unit) => some true)))
noncomputable def slices_Clone_Decl (s : (List TDecl)) : Option (List TDecl) :=
  (app 32 [] s).bind fun v2 => some v2
noncomputable def slices_Clone_Attr (s : (List TAttr)) : Option (List TAttr) :=
  (app 64 [] s).bind fun v2 => some v2
noncomputable def doc_clone (x : TNode) : Option (Int × Int × Str × Str × Str × Str × (List TDecl) × (List TAttr)) :=
  (slices_Clone_Decl x.Decls).bind fun v1 => (slices_Clone_Attr x.Attrs).bind fun v2 => some (x.Kind, x.Parent, x.Prefix, x.Local, x.URI, x.Text, v1, v2)
noncomputable def doc_Of_b1 (l : (List TNode)) (y4 : Int × (List TNode)) : Option ((Int × (List TNode)) ⊕ (List TNode)) :=
  (bif (decide (y4.1 < (l.length : Int))) then (at' l y4.1).bind fun v5 => (doc_clone v5).bind fun v6 => (app 128 y4.2 [(TNode.mk v6.1 v6.2.1 v6.2.2.1 v6.2.2.2.1 v6.2.2.2.2.1 v6.2.2.2.2.2.1 v6.2.2.2.2.2.2.1 v6.2.2.2.2.2.2.2)]).bind fun v7 => some (.inl ((w64 (y4.1 + 1)), v7)) else some (.inr y4.2))
noncomputable def doc_Of_b2 (l : (List TNode)) (y9 : Int × (List Int)) : Option ((Int × (List Int)) ⊕ (List Int)) :=
  (bif (decide (y9.1 ≥ 0)) then (at' y9.2 y9.1).bind fun v10 => (at' y9.2 y9.1).bind fun v11 => (put y9.2 y9.1 (mx v10 (w64 (y9.1 + 1)))).bind fun v12 => (at' l y9.1).bind fun v13 => (bif (decide (v13.Parent ≥ 0)) then (at' v12 v13.Parent).bind fun v14 => (at' v12 y9.1).bind fun v15 => (at' v12 v13.Parent).bind fun v16 => (put v12 v13.Parent (mx v14 v15)).bind fun v17 => some (.inl ((w64 (y9.1 - 1)), v17)) else some (.inl ((w64 (y9.1 - 1)), v12))) else some (.inr y9.2))
noncomputable def doc_Of (l : (List TNode)) : Option ((Option TDoc) × Int) :=
  (doc_check l).bind fun v1 => (bif (!v1.2) then some (none, 2) else (doc_within l).bind fun v2 => (bif (!v2) then some (none, 3) else (mk 8 (l.length : Int) 0).bind fun v3 => (iter (doc_Of_b1 l) (0, [])).bind (fun (q8 : (List TNode)) => (iter (doc_Of_b2 l) ((w64 ((l.length : Int) - 1)), v3)).bind (fun (q18 : (List Int)) => some ((some (TDoc.mk q8 q18 v1.1)), 0)))))
noncomputable def parse_reader_blanks_s5_b1 (u1 : Str) (y1 : Int) : Option (Int ⊕ Int) :=
  (bif (decide (y1 < (u1.length : Int))) then (at' u1 y1).bind fun v2 => (name_Blank v2).bind fun v3 => (bif v3 then some (.inl (w64 (y1 + 1))) else some (.inr y1)) else some (.inr y1))
noncomputable def parse_reader_blanks_s5 (u1 : Str) (u2 : Bool) (u3 : (List TNode)) (u4 : (List TOpen_)) (u5 : (List UInt8)) : Option (Bool × Str) :=
  (iter (parse_reader_blanks_s5_b1 u1) 0).bind (fun (q4 : Int) => (sub' u1 q4 (u1.length : Int)).bind fun v5 => some ((decide (q4 > 0)), v5))
noncomputable def parse_reader_take_s7 (u1 : Str) (u2 : Str) (u3 : Bool) (u4 : (List TNode)) (u5 : (List TOpen_)) (u6 : (List UInt8)) : Option (Bool × Str) :=
  (strings_CutPrefix u2 u1).bind fun v1 => (bif v1.2 then some (v1.2, v1.1) else some (v1.2, u2))
noncomputable def parse_reader_until_s9 (u1 : Str) (u2 : Str) (u3 : Bool) (u4 : (List TNode)) (u5 : (List TOpen_)) (u6 : (List UInt8)) : Option (Str × Bool × Str) :=
  (strings_Cut u2 u1).bind fun v1 => (bif v1.2.2 then some (v1.1, v1.2.2, v1.2.1) else some (v1.1, v1.2.2, u2))
noncomputable def parse_reader_quoted_s8 (u1 : Str) (u2 : Bool) (u3 : (List TNode)) (u4 : (List TOpen_)) (u5 : (List UInt8)) : Option (Str × Bool × Str) :=
  (parse_reader_blanks_s5 u1 u2 u3 u4 u5).bind fun v1 => (parse_reader_take_s7 [61] v1.2 u2 u3 u4 u5).bind fun v2 => (bif (!v2.1) then some ([], false, v2.2) else (parse_reader_blanks_s5 v2.2 u2 u3 u4 u5).bind fun v3 => ((bif (v3.2 == []) then some true else (sub' v3.2 0 1).bind fun v4 => (strings_Contains [39, 34] v4).bind fun v5 => some (!v5)) : Option (Bool)).bind (fun (q6 : Bool) => (bif q6 then some ([], false, v3.2) else (sub' v3.2 0 1).bind fun v7 => (sub' v3.2 1 (v3.2.length : Int)).bind fun v8 => (parse_reader_until_s9 v7 v8 u2 u3 u4 u5).bind fun v9 => some (v9.1, v9.2.1, v9.2.2))))
noncomputable def parse_reader_said_s6_b1 (u7 : (List Str)) (v4 : Str × Bool × Str) (y5 : Int) : Option (Int ⊕ (Unit ⊕ Unit)) :=
  (bif (decide (y5 < (u7.length : Int))) then (at' u7 y5).bind fun v6 => (bif v4.2.1 then (bif (v4.1 == v6) then some (.inr (Sum.inl ())) else some (.inl (w64 (y5 + 1)))) else some (.inl (w64 (y5 + 1)))) else some (.inr (Sum.inr ())))
noncomputable def parse_reader_said_s6 (u1 : Str) (u2 : Str) (u3 : Bool) (u4 : (List TNode)) (u5 : (List TOpen_)) (u6 : (List UInt8)) (u7 : (List Str)) : Option (Bool × Str) :=
  ((parse_reader_blanks_s5 u2 u3 u4 u5 u6).bind fun v1 => (bif (!v1.1) then some (true, v1.2) else (parse_reader_take_s7 u1 v1.2 u3 u4 u5 u6).bind fun v2 => some ((!v2.1), v2.2)) : Option ((Bool × Str))).bind (fun (q3 : Bool × Str) => (bif q3.1 then some (true, u2) else (parse_reader_quoted_s8 q3.2 u3 u4 u5 u6).bind fun v4 => (iter (parse_reader_said_s6_b1 u7 v4) 0).bind (Sum.elim (fun (q7 : Unit) => some (true, v4.2.2)) (fun (q8 : Unit) => some (false, v4.2.2)))))
noncomputable def parse_reader_encoding_s10 (u1 : Str) (u2 : Bool) (u3 : (List TNode)) (u4 : (List TOpen_)) (u5 : (List UInt8)) : Option (Bool × Str) :=
  ((parse_reader_blanks_s5 u1 u2 u3 u4 u5).bind fun v1 => (bif (!v1.1) then some (true, v1.2) else (parse_reader_take_s7 [101, 110, 99, 111, 100, 105, 110, 103] v1.2 u2 u3 u4 u5).bind fun v2 => some ((!v2.1), v2.2)) : Option ((Bool × Str))).bind (fun (q3 : Bool × Str) => (bif q3.1 then some (true, u1) else (parse_reader_quoted_s8 q3.2 u2 u3 u4 u5).bind fun v4 => (bif v4.2.1 then (parse_fold v4.1).bind fun v5 => some ((v5 == [117, 116, 102, 45, 56]), v4.2.2) else some (false, v4.2.2))))
noncomputable def parse_reader_declaration_s4 (u1 : Str) (u2 : Bool) (u3 : (List TNode)) (u4 : (List TOpen_)) (u5 : (List UInt8)) : Option (Bool × Str) :=
  ((bif (decide ((u1.length : Int) < 6)) then some true else (sub' u1 0 5).bind fun v1 => (bif (!(v1 == [60, 63, 120, 109, 108])) then some true else (at' u1 5).bind fun v2 => (name_Blank v2).bind fun v3 => some (!v3))) : Option (Bool)).bind (fun (q4 : Bool) => (bif q4 then some (true, u1) else (sub' u1 5 (u1.length : Int)).bind fun v5 => (parse_reader_blanks_s5 v5 u2 u3 u4 u5).bind fun v6 => (strings_HasPrefix v6.2 [118, 101, 114, 115, 105, 111, 110]).bind fun v7 => (bif (!v7) then some (false, v6.2) else (parse_reader_said_s6 [118, 101, 114, 115, 105, 111, 110] v5 u2 u3 u4 u5 [[49, 46, 48]]).bind fun v8 => (bif (!v8.1) then some (false, v8.2) else (parse_reader_encoding_s10 v8.2 u2 u3 u4 u5).bind fun v9 => (bif (!v9.1) then some (false, v9.2) else (parse_reader_said_s6 [115, 116, 97, 110, 100, 97, 108, 111, 110, 101] v9.2 u2 u3 u4 u5 [[121, 101, 115], [110, 111]]).bind fun v10 => (bif (!v10.1) then some (false, v10.2) else (parse_reader_blanks_s5 v10.2 u2 u3 u4 u5).bind fun v11 => (parse_reader_take_s7 [63, 62] v11.2 u2 u3 u4 u5).bind fun v12 => some (v12.1, v12.2)))))))
noncomputable def strings_Builder_Len_s14 (u1 : Str) (u2 : Bool) (u3 : (List TNode)) (u4 : (List TOpen_)) (u5 : (List UInt8)) : Option Int :=
  some (u5.length : Int)
noncomputable def parse_reader_parent_s15 (u1 : Str) (u2 : Bool) (u3 : (List TNode)) (u4 : (List TOpen_)) (u5 : (List UInt8)) : Option Int :=
  (bif ((u4.length : Int) == 0) then some 0 else (at' u4 (w64 ((u4.length : Int) - 1))).bind fun v1 => some v1.n)
noncomputable def parse_reader_flush_s13 (u1 : Str) (u2 : Bool) (u3 : (List TNode)) (u4 : (List TOpen_)) (u5 : (List UInt8)) : Option Unit :=
  (strings_Builder_Len_s14 u1 u2 u3 u4 u5).bind fun v1 => (bif (decide (v1 > 0)) then none else some ())
noncomputable def parse_reader_put_s12 (u1 : Int) (u2 : Int) (u3 : Str) (u4 : Str) (u5 : Str) (u6 : Str) (u7 : Str) (u8 : Bool) (u9 : (List TNode)) (u10 : (List TOpen_)) (u11 : (List UInt8)) : Option (List TNode) :=
  (parse_reader_flush_s13 u7 u8 u9 u10 u11).bind fun v1 => (parse_reader_parent_s15 u7 u8 u9 u10 u11).bind fun v2 => (app 128 u9 [(TNode.mk u1 v2 u3 u4 u5 u6 [] [])]).bind fun v3 => some v3
noncomputable def parse_reader_word_s19_b1 (u1 : Str) (y1 : Int × Nat) : Option ((Int × Nat) ⊕ Int) :=
  (bif (decide (y1.2 < u1.length)) then (bif (((dec u1 y1.2).1 : Int) != 58) then (name_Stands ((dec u1 y1.2).1 : Int)).bind fun v2 => (bif (!v2) then some (.inr y1.1) else some (.inl ((w64 ((y1.2 : Int) + ((enc ((dec u1 y1.2).1 : Int)).length : Int))), (y1.2 + (dec u1 y1.2).2)))) else some (.inl ((w64 ((y1.2 : Int) + ((enc ((dec u1 y1.2).1 : Int)).length : Int))), (y1.2 + (dec u1 y1.2).2)))) else some (.inr y1.1))
noncomputable def parse_reader_word_s19 (u1 : Str) (u2 : Bool) (u3 : (List TNode)) (u4 : (List TOpen_)) (u5 : (List UInt8)) : Option (Str × Str) :=
  (iter (parse_reader_word_s19_b1 u1) (0, 0)).bind (fun (q3 : Int) => (sub' u1 0 q3).bind fun v4 => (sub' u1 q3 (u1.length : Int)).bind fun v5 => some (v4, v5))
noncomputable def parse_reader_instruction_s18 (u1 : Str) (u2 : Bool) (u3 : (List TNode)) (u4 : (List TOpen_)) (u5 : (List UInt8)) : Option (Bool × Str × (List TNode)) :=
  (parse_reader_word_s19 u1 u2 u3 u4 u5).bind fun v1 => (parse_reader_blanks_s5 v1.2 u2 u3 u4 u5).bind fun v2 => (parse_reader_until_s9 [63, 62] v2.2 u2 u3 u4 u5).bind fun v3 => (bif (!v3.2.1) then some (false, v3.2.2, u3) else (bif (!v2.1) then (bif (!(v3.1 == [])) then some (false, v3.2.2, u3) else (parse_reader_put_s12 4 0 [] v1.1 [] v3.1 v3.2.2 u2 u3 u4 u5).bind fun v4 => some (true, v3.2.2, v4)) else (parse_reader_put_s12 4 0 [] v1.1 [] v3.1 v3.2.2 u2 u3 u4 u5).bind fun v5 => some (true, v3.2.2, v5)))
noncomputable def parse_reader_finish_s20 (u1 : Str) (u2 : Bool) (u3 : (List TNode)) (u4 : (List TOpen_)) (u5 : (List UInt8)) : Option (Bool × Str × (List TOpen_)) :=
  ((bif (decide ((w64 ((u4.length : Int) - 1)) < 0)) then some (true, u1) else none) : Option ((Bool × Str))).bind (fun (q3 : Bool × Str) => (bif q3.1 then some (false, q3.2, u4) else (parse_reader_blanks_s5 q3.2 u2 u3 u4 u5).bind fun v4 => (parse_reader_take_s7 [62] v4.2 u2 u3 u4 u5).bind fun v5 => (bif (!v5.1) then some (false, v5.2, u4) else (parse_reader_flush_s13 v5.2 u2 u3 u4 u5).bind fun v6 => (rng (u4.length : Int) 0 (w64 ((u4.length : Int) - 1))).bind fun _ => (prt u4 0 ((w64 ((u4.length : Int) - 1)).toNat)).bind fun v7 => some (true, v5.2, v7))))
noncomputable def parse_reader_means_s23_b2 (u1 : Str) (v3 : TNode) (y4 : Int) : Option (Int ⊕ (Str ⊕ Unit)) :=
  (bif (decide (y4 < (v3.Decls.length : Int))) then (at' v3.Decls y4).bind fun v5 => (bif (v5.Prefix == u1) then some (.inr (Sum.inl v5.URI)) else some (.inl (w64 (y4 + 1)))) else some (.inr (Sum.inr ())))
noncomputable def parse_reader_means_s23_b3 (y8 : Unit) : Option (Unit ⊕ Unit) :=
  (bif (decide (0 < 0)) then none else some (.inr ()))
noncomputable def parse_reader_means_s23_b1 (u1 : Str) (u4 : (List TNode)) (u5 : (List TOpen_)) (y1 : Int) : Option (Int ⊕ (Str ⊕ Unit)) :=
  (bif (decide (y1 ≥ 0)) then (bif (decide (y1 < (u5.length : Int))) then (at' u5 y1).bind fun v2 => (at' u4 v2.n).bind fun v3 => (iter (parse_reader_means_s23_b2 u1 v3) 0).bind (Sum.elim (fun (q6 : Str) => some (.inr (Sum.inl q6))) (fun (q7 : Unit) => some (.inl (w64 (y1 - 1))))) else (iter (parse_reader_means_s23_b3) ()).bind (fun (q9 : Unit) => some (.inl (w64 (y1 - 1))))) else some (.inr (Sum.inr ())))
noncomputable def parse_reader_means_s23 (u1 : Str) (u2 : Str) (u3 : Bool) (u4 : (List TNode)) (u5 : (List TOpen_)) (u6 : (List UInt8)) : Option Str :=
  (bif (u1 == [120, 109, 108]) then some [104, 116, 116, 112, 58, 47, 47, 119, 119, 119, 46, 119, 51, 46, 111, 114, 103, 47, 88, 77, 76, 47, 49, 57, 57, 56, 47, 110, 97, 109, 101, 115, 112, 97, 99, 101] else (iter (parse_reader_means_s23_b1 u1 u4 u5) (u5.length : Int)).bind (Sum.elim (fun (q10 : Str) => some q10) (fun (q11 : Unit) => some [])))
noncomputable def parse_reader_enter_s22_b1 (y2 : Unit) : Option (Unit ⊕ Unit) :=
  (bif (decide (0 < 0)) then none else some (.inr ()))
noncomputable def parse_reader_enter_s22 (u1 : Int) (u2 : Int) (u3 : Str) (u4 : Str) (u5 : Str) (u6 : Str) (u7 : Str) (u8 : Bool) (u9 : Str) (u10 : Bool) (u11 : (List TNode)) (u12 : (List TOpen_)) (u13 : (List UInt8)) : Option ((List TNode) × (List TOpen_)) :=
  (parse_reader_means_s23 u3 u9 u10 u11 u12 u13).bind fun v1 => (iter (parse_reader_enter_s22_b1) ()).bind (fun (q3 : Unit) => (parse_reader_put_s12 u1 u2 u3 u4 v1 u6 u9 u10 u11 u12 u13).bind fun v4 => (bif (!u8) then (app 24 u12 [(TOpen_.mk (w64 ((v4.length : Int) - 1)) u7)]).bind fun v5 => some (v4, v5) else some (v4, u12)))
noncomputable def parse_reader_start_s21_b1 (u2 : Bool) (u3 : (List TNode)) (u4 : (List TOpen_)) (u5 : (List UInt8)) (v1 : Str × Str) (v2 : Str × Str × Bool) (y3 : Unit) : Option (Unit ⊕ (Bool × Str × (List TNode) × (List TOpen_))) :=
  (parse_reader_blanks_s5 v1.2 u2 u3 u4 u5).bind fun v4 => (parse_reader_take_s7 [62] v4.2 u2 u3 u4 u5).bind fun v5 => (bif (!v5.1) then (parse_reader_take_s7 [47, 62] v5.2 u2 u3 u4 u5).bind fun v6 => (bif v5.1 then (parse_reader_enter_s22 1 0 v2.1 v2.2.1 [] [] v1.1 v6.1 v6.2 u2 u3 u4 u5).bind fun v7 => some (.inr (true, v6.2, v7.1, v7.2)) else (bif v6.1 then (parse_reader_enter_s22 1 0 v2.1 v2.2.1 [] [] v1.1 v6.1 v6.2 u2 u3 u4 u5).bind fun v8 => some (.inr (true, v6.2, v8.1, v8.2)) else (bif (!v4.1) then some (.inr (false, v6.2, u3, u4)) else none))) else (bif v5.1 then (parse_reader_enter_s22 1 0 v2.1 v2.2.1 [] [] v1.1 false v5.2 u2 u3 u4 u5).bind fun v9 => some (.inr (true, v5.2, v9.1, v9.2)) else (bif (!v4.1) then some (.inr (false, v5.2, u3, u4)) else none)))
noncomputable def parse_reader_start_s21 (u1 : Str) (u2 : Bool) (u3 : (List TNode)) (u4 : (List TOpen_)) (u5 : (List UInt8)) : Option (Bool × Str × (List TNode) × (List TOpen_)) :=
  (parse_reader_word_s19 u1 u2 u3 u4 u5).bind fun v1 => (name_Split v1.1).bind fun v2 => (bif (!v2.2.2) then some (false, v1.2, u3, u4) else (iter (parse_reader_start_s21_b1 u2 u3 u4 u5 v1 v2) ()).bind (fun (q10 : Bool × Str × (List TNode) × (List TOpen_)) => some (q10.1, q10.2.1, q10.2.2.1, q10.2.2.2)))
noncomputable def parse_reader_between_s25 (u1 : Str) (u2 : Bool) (u3 : (List TNode)) (u4 : (List TOpen_)) (u5 : (List UInt8)) : Option (Bool × Str) :=
  (strings_IndexByte u1 60).bind fun v1 => (bif (decide (v1 < 0)) then (sub' u1 0 (u1.length : Int)).bind fun v2 => (sub' u1 (u1.length : Int) (u1.length : Int)).bind fun v3 => (bif ((u4.length : Int) == 0) then (name_Trim v2).bind fun v4 => some ((v4 == []), v3) else none) else (sub' u1 0 v1).bind fun v6 => (sub' u1 v1 (u1.length : Int)).bind fun v7 => (bif ((u4.length : Int) == 0) then (name_Trim v6).bind fun v8 => some ((v8 == []), v7) else none))
noncomputable def parse_reader_step_s11 (u1 : Str) (u2 : Bool) (u3 : (List TNode)) (u4 : (List TOpen_)) (u5 : (List UInt8)) : Option (Bool × Str × (List TNode) × (List TOpen_)) :=
  (parse_reader_take_s7 [60, 33, 45, 45] u1 u2 u3 u4 u5).bind fun v1 => (bif v1.1 then (parse_reader_until_s9 [45, 45, 62] v1.2 u2 u3 u4 u5).bind fun v2 => (parse_reader_put_s12 3 0 [] [] [] v2.1 v2.2.2 u2 u3 u4 u5).bind fun v3 => some (v2.2.1, v2.2.2, v3, u4) else ((bif (decide ((u4.length : Int) > 0)) then (parse_reader_take_s7 [60, 33, 91, 67, 68, 65, 84, 65, 91] v1.2 u2 u3 u4 u5).bind fun v4 => some (v4.1, v4.2) else some (false, v1.2)) : Option ((Bool × Str))).bind (fun (q5 : Bool × Str) => (bif q5.1 then none else (parse_reader_take_s7 [60, 63] q5.2 u2 u3 u4 u5).bind fun v7 => (bif v7.1 then (parse_reader_instruction_s18 v7.2 u2 u3 u4 u5).bind fun v8 => some (v8.1, v8.2.1, v8.2.2, u4) else (parse_reader_take_s7 [60, 47] v7.2 u2 u3 u4 u5).bind fun v9 => (bif v9.1 then (parse_reader_finish_s20 v9.2 u2 u3 u4 u5).bind fun v10 => some (v10.1, v10.2.1, u3, v10.2.2) else (parse_reader_take_s7 [60] v9.2 u2 u3 u4 u5).bind fun v11 => (bif v11.1 then (parse_reader_start_s21 v11.2 u2 u3 u4 u5).bind fun v12 => some (v12.1, v12.2.1, v12.2.2.1, v12.2.2.2) else (parse_reader_between_s25 v11.2 u2 u3 u4 u5).bind fun v13 => some (v13.1, v13.2, u3, u4)))))))
noncomputable def parse_Parse_b1 (y4 : Str × (List TNode) × (List TOpen_)) : Option ((Str × (List TNode) × (List TOpen_)) ⊕ (Unit ⊕ (Str × (List TNode) × (List TOpen_)))) :=
  (bif (!(y4.1 == [])) then (parse_reader_step_s11 y4.1 false y4.2.1 y4.2.2 []).bind fun v5 => (bif (!v5.1) then some (.inr (Sum.inl ())) else some (.inl (v5.2.1, v5.2.2.1, v5.2.2.2))) else some (.inr (Sum.inr (y4.1, y4.2.1, y4.2.2))))
noncomputable def parse_Parse (b : (List UInt8)) : Option ((Option TDoc) × Int) :=
  (bif (decide ((b.length : Int) > 65536)) then some (none, 3) else (utf_Text b).bind fun v1 => (bif (!v1) then some (none, 2) else (chars_Lines b).bind fun v2 => (parse_reader_declaration_s4 v2 false [(TNode.mk 0 (-1) [] [] [] [] [] [])] [] []).bind fun v3 => (bif (!v3.1) then some (none, 2) else (iter (parse_Parse_b1) (v3.2, [(TNode.mk 0 (-1) [] [] [] [] [] [])], [])).bind (Sum.elim (fun (q6 : Unit) => some (none, 2)) (fun (q7 : Str × (List TNode) × (List TOpen_)) => (bif (decide ((q7.2.2.length : Int) > 0)) then some (none, 2) else (doc_Of q7.2.1).bind fun v8 => some (v8.1, v8.2)))))))
noncomputable def doc_Doc_Len (d : (Option TDoc)) : Option Int :=
  (bif d.isNone then some 0 else (d).bind fun v1 => some (v1.l.length : Int))
noncomputable def doc_Doc_has (d : (Option TDoc)) (n : Int) : Option Bool :=
  (bif (decide (n ≥ 0)) then (doc_Doc_Len d).bind fun v1 => some (decide (n < v1)) else some false)
noncomputable def doc_Doc_Node (d : (Option TDoc)) (n : Int) : Option TNode :=
  (doc_Doc_has d n).bind fun v1 => (bif (!v1) then some (TNode.mk 0 0 [] [] [] [] [] []) else (d).bind fun v2 => (at' v2.l n).bind fun v3 => (doc_clone v3).bind fun v4 => some (TNode.mk v4.1 v4.2.1 v4.2.2.1 v4.2.2.2.1 v4.2.2.2.2.1 v4.2.2.2.2.2.1 v4.2.2.2.2.2.2.1 v4.2.2.2.2.2.2.2))
noncomputable def ident_names (a : TAttr) : Option Bool :=
  (bif (a.URI == [104, 116, 116, 112, 58, 47, 47, 119, 119, 119, 46, 119, 51, 46, 111, 114, 103, 47, 88, 77, 76, 47, 49, 57, 57, 56, 47, 110, 97, 109, 101, 115, 112, 97, 99, 101]) then some (a.Local == [105, 100]) else (bif (a.URI == []) then (bif (a.Local == [73, 100]) then some true else (bif (a.Local == [73, 68]) then some true else some (a.Local == [105, 100]))) else some false))
noncomputable def ident_Index_add_s26_b1 (u3 : (List (Str × Int))) (v1 : TNode) (y2 : Int) : Option (Int ⊕ (Unit ⊕ Unit)) :=
  (bif (decide (y2 < (v1.Attrs.length : Int))) then (at' v1.Attrs y2).bind fun v3 => (ident_names v3).bind fun v4 => (bif (!v4) then some (.inl (w64 (y2 + 1))) else (bif (mget u3 v3.Value).isSome then some (.inr (Sum.inl ())) else none)) else some (.inr (Sum.inr ())))
noncomputable def ident_Index_add_s26 (u1 : Int) (u2 : (Option TDoc)) (u3 : (List (Str × Int))) : Option Bool :=
  (doc_Doc_Node u2 u1).bind fun v1 => (iter (ident_Index_add_s26_b1 u3 v1) 0).bind (Sum.elim (fun (q5 : Unit) => some false) (fun (q6 : Unit) => some true))
noncomputable def ident_Of_b1 (d : (Option TDoc)) (v1 : Int) (y2 : Int) : Option (Int ⊕ (Unit ⊕ Unit)) :=
  (bif (decide (y2 < v1)) then (ident_Index_add_s26 y2 d []).bind fun v3 => (bif (!v3) then some (.inr (Sum.inl ())) else some (.inl (w64 (y2 + 1)))) else some (.inr (Sum.inr ())))
noncomputable def ident_Of (d : (Option TDoc)) : Option ((Option TIndex) × Int) :=
  (bif d.isNone then some (none, 1) else (doc_Doc_Len d).bind fun v1 => (iter (ident_Of_b1 d v1) 0).bind (Sum.elim (fun (q4 : Unit) => some (none, 9)) (fun (q5 : Unit) => some ((some (TIndex.mk d [])), 0))))
noncomputable def value_OfNumber (n : Int) : Option (TValue × Int) :=
  (bif (decide (n < (-9007199254740992))) then some ((TValue.mk 0 [] false 0 false []), 6) else (bif (decide (n > 9007199254740992)) then some ((TValue.mk 0 [] false 0 false []), 6) else some ((TValue.mk 2 [] false n false []), 0)))
noncomputable def value_OfText (s : Str) : Option TValue :=
  some (TValue.mk 3 [] false 0 false s)
noncomputable def call_shapes : Option (List (Str × TShape)) :=
  some (mput (mput (mput (mput (mput (mput (mput (mput (mput (mput (mput (mput (mput (mput (mput (mput (mput (mput (mput (mput (mput (mput (mput (mput (mput (mput (mput [] [108, 97, 115, 116] (TShape.mk 0 0 false)) [112, 111, 115, 105, 116, 105, 111, 110] (TShape.mk 0 0 false)) [99, 111, 117, 110, 116] (TShape.mk 1 1 true)) [105, 100] (TShape.mk 1 1 false)) [108, 111, 99, 97, 108, 45, 110, 97, 109, 101] (TShape.mk 0 1 true)) [110, 97, 109, 101, 115, 112, 97, 99, 101, 45, 117, 114, 105] (TShape.mk 0 1 true)) [110, 97, 109, 101] (TShape.mk 0 1 true)) [115, 116, 114, 105, 110, 103] (TShape.mk 0 1 false)) [99, 111, 110, 99, 97, 116] (TShape.mk 2 1048576 false)) [115, 116, 97, 114, 116, 115, 45, 119, 105, 116, 104] (TShape.mk 2 2 false)) [99, 111, 110, 116, 97, 105, 110, 115] (TShape.mk 2 2 false)) [115, 117, 98, 115, 116, 114, 105, 110, 103, 45, 98, 101, 102, 111, 114, 101] (TShape.mk 2 2 false)) [115, 117, 98, 115, 116, 114, 105, 110, 103, 45, 97, 102, 116, 101, 114] (TShape.mk 2 2 false)) [115, 117, 98, 115, 116, 114, 105, 110, 103] (TShape.mk 2 3 false)) [115, 116, 114, 105, 110, 103, 45, 108, 101, 110, 103, 116, 104] (TShape.mk 0 1 false)) [110, 111, 114, 109, 97, 108, 105, 122, 101, 45, 115, 112, 97, 99, 101] (TShape.mk 0 1 false)) [116, 114, 97, 110, 115, 108, 97, 116, 101] (TShape.mk 3 3 false)) [98, 111, 111, 108, 101, 97, 110] (TShape.mk 1 1 false)) [110, 111, 116] (TShape.mk 1 1 false)) [116, 114, 117, 101] (TShape.mk 0 0 false)) [102, 97, 108, 115, 101] (TShape.mk 0 0 false)) [108, 97, 110, 103] (TShape.mk 1 1 false)) [110, 117, 109, 98, 101, 114] (TShape.mk 0 1 false)) [115, 117, 109] (TShape.mk 1 1 true)) [102, 108, 111, 111, 114] (TShape.mk 1 1 false)) [99, 101, 105, 108, 105, 110, 103] (TShape.mk 1 1 false)) [114, 111, 117, 110, 100] (TShape.mk 1 1 false))
noncomputable def strconv_FormatInt (i : Int) (base : Int) : Option Str :=
  bif decide (base = 10 ∧ -9223372036854775808 ≤ i ∧ i ≤ 9223372036854775807) then some (Go.Lib.itoa i) else none
noncomputable def value_AsText (d : (Option TDoc)) (v_ : TValue) : Option Str :=
  ((bif (v_.Kind == 0) then some (decide ((v_.Set.length : Int) > 0)) else some false) : Option (Bool)).bind (fun (q1 : Bool) => (bif q1 then none else ((bif (v_.Kind == 1) then some v_.Bool_ else some false) : Option (Bool)).bind (fun (q3 : Bool) => (bif q3 then some [116, 114, 117, 101] else (bif (v_.Kind == 1) then some [102, 97, 108, 115, 101] else (bif (v_.Kind == 2) then (bif v_.NaN then some [78, 97, 78] else (bif (v_.Kind == 2) then (strconv_FormatInt v_.N 10).bind fun v4 => some v4 else (bif (v_.Kind == 3) then some v_.Text else some []))) else (bif (v_.Kind == 2) then (strconv_FormatInt v_.N 10).bind fun v5 => some v5 else (bif (v_.Kind == 3) then some v_.Text else some []))))))))
noncomputable def call_caller_text (c : TCaller) (n : Int) : Option Str :=
  (bif (decide (n ≥ (c.args.length : Int))) then none else (c.x).bind fun v2 => (at' c.args n).bind fun v3 => (value_AsText v2.Doc v3).bind fun v4 => some v4)
noncomputable def strings_indexFunc_b1 (s : Str) (f : (Int → Option Bool)) (truth : Bool) (y1 : Nat) : Option (Nat ⊕ (Int ⊕ Unit)) :=
  (bif (decide (y1 < s.length)) then (f ((dec s y1).1 : Int)).bind fun v2 => (bif (v2 == truth) then some (.inr (Sum.inl (y1 : Int))) else some (.inl (y1 + (dec s y1).2))) else some (.inr (Sum.inr ())))
noncomputable def strings_indexFunc (s : Str) (f : (Int → Option Bool)) (truth : Bool) : Option Int :=
  (iter (strings_indexFunc_b1 s f truth) 0).bind (Sum.elim (fun (q3 : Int) => some q3) (fun (q4 : Unit) => some (-1)))
noncomputable def strings_IndexFunc (s : Str) (f : (Int → Option Bool)) : Option Int :=
  (strings_indexFunc s f true).bind fun v1 => some v1
noncomputable def value_digits_c1 (c : Int) : Option Bool :=
  (bif (decide (c < 48)) then some true else some (decide (c > 57)))
noncomputable def value_digits (s : Str) : Option Bool :=
  (strings_IndexFunc s (fun x0 => value_digits_c1 x0)).bind fun v1 => some (decide (v1 < 0))
noncomputable def value_None : Option TValue :=
  some (TValue.mk 2 [] false 0 true [])
noncomputable def strings_trimRightByte_b1 (c : UInt8) (y1 : Str) : Option (Str ⊕ Str) :=
  (bif (decide ((y1.length : Int) > 0)) then (at' y1 (w64 ((y1.length : Int) - 1))).bind fun v2 => (bif ((v2.toNat : Int) == (c.toNat : Int)) then (sub' y1 0 (w64 ((y1.length : Int) - 1))).bind fun v3 => some (.inl v3) else some (.inr y1)) else some (.inr y1))
noncomputable def strings_trimRightByte (s : Str) (c : UInt8) : Option Str :=
  (iter (strings_trimRightByte_b1 c) s).bind (fun (q4 : Str) => some q4)
noncomputable def strings_trimLeftByte_b1 (c : UInt8) (y1 : Str) : Option (Str ⊕ Str) :=
  (bif (decide ((y1.length : Int) > 0)) then (at' y1 0).bind fun v2 => (bif ((v2.toNat : Int) == (c.toNat : Int)) then (sub' y1 1 (y1.length : Int)).bind fun v3 => some (.inl v3) else some (.inr y1)) else some (.inr y1))
noncomputable def strings_trimLeftByte (s : Str) (c : UInt8) : Option Str :=
  (iter (strings_trimLeftByte_b1 c) s).bind (fun (q4 : Str) => some q4)
noncomputable def strings_Trim (s : Str) (cutset : Str) : Option Str :=
  ((bif (s == []) then some true else some (cutset == [])) : Option (Bool)).bind (fun (q1 : Bool) => (bif q1 then some s else ((bif ((cutset.length : Int) == 1) then (at' cutset 0).bind fun v2 => some (decide ((v2.toNat : Int) < 128)) else some false) : Option (Bool)).bind (fun (q3 : Bool) => (bif q3 then (at' cutset 0).bind fun v4 => (at' cutset 0).bind fun v5 => (strings_trimRightByte s v4).bind fun v6 => (strings_trimLeftByte v6 v5).bind fun v7 => some v7 else none))))
noncomputable def value_Read_b1 (v3 : Str × Str × Bool) (y9 : Int × Int) : Option ((Int × Int) ⊕ Int) :=
  (bif (decide (y9.2 < (v3.1.length : Int))) then (at' v3.1 y9.2).bind fun v10 => some (.inl ((mn (w64 ((w64 (y9.1 * 10)) + (w64 ((v10 - 48).toNat : Int)))) 9007199254740993), (w64 (y9.2 + 1)))) else some (.inr y9.1))
noncomputable def value_Read (s : Str) : Option (TValue × Int) :=
  (name_Trim s).bind fun v1 => (strings_CutPrefix v1 [45]).bind fun v2 => (strings_Cut v2.1 [46]).bind fun v3 => ((value_digits v3.1).bind fun v4 => (bif (!v4) then some true else (value_digits v3.2.1).bind fun v5 => (bif (!v5) then some true else (bif (v3.1 == []) then some (v3.2.1 == []) else some false))) : Option (Bool)).bind (fun (q6 : Bool) => (bif q6 then (value_None).bind fun v7 => some (v7, 0) else (strings_Trim v3.2.1 [48]).bind fun v8 => (bif (!(v8 == [])) then some ((TValue.mk 0 [] false 0 false []), 6) else (iter (value_Read_b1 v3) (0, 0)).bind (fun (q11 : Int) => (bif v2.2 then (value_OfNumber (w64 (0 - q11))).bind fun v12 => some (v12.1, v12.2) else (value_OfNumber q11).bind fun v13 => some (v13.1, v13.2))))))
noncomputable def value_AsNumber (d : (Option TDoc)) (v_ : TValue) : Option (TValue × Int) :=
  (bif (v_.Kind == 2) then some (v_, 0) else ((bif (v_.Kind == 1) then some v_.Bool_ else some false) : Option (Bool)).bind (fun (q1 : Bool) => (bif q1 then (value_OfNumber 1).bind fun v2 => some (v2.1, v2.2) else (bif (v_.Kind == 1) then (value_OfNumber 0).bind fun v3 => some (v3.1, v3.2) else (bif (v_.Kind == 0) then (value_AsText d v_).bind fun v4 => (value_Read v4).bind fun v5 => some (v5.1, v5.2) else (bif (v_.Kind == 3) then (value_AsText d v_).bind fun v6 => (value_Read v6).bind fun v7 => some (v7.1, v7.2) else (value_None).bind fun v8 => some (v8, 0)))))))
noncomputable def call_caller_number (c : TCaller) (n : Int) : Option (TValue × Int) :=
  (bif (decide (n ≥ (c.args.length : Int))) then (call_caller_text c n).bind fun v1 => (value_Read v1).bind fun v2 => some (v2.1, v2.2) else (c.x).bind fun v3 => (at' c.args n).bind fun v4 => (value_AsNumber v3.Doc v4).bind fun v5 => some (v5.1, v5.2))
noncomputable def call_caller_substring (c : TCaller) : Option (TValue × Int) :=
  (call_caller_number c 1).bind fun v1 => (bif (v1.2 != 0) then some ((TValue.mk 0 [] false 0 false []), v1.2) else (call_caller_text c 0).bind fun v2 => (runes v2).bind fun v3 => (bif (decide ((c.args.length : Int) > 2)) then (call_caller_number c 2).bind fun v4 => (bif (v4.2 != 0) then some ((TValue.mk 0 [] false 0 false []), v4.2) else ((bif v1.1.NaN then some true else some v4.1.NaN) : Option (Bool)).bind (fun (q5 : Bool) => (bif q5 then (value_OfText []).bind fun v6 => some (v6, 0) else (bif (decide ((mx v1.1.N 1) ≥ (mn (w64 ((v3.length : Int) + 1)) (w64 (v1.1.N + v4.1.N))))) then (value_OfText []).bind fun v7 => some (v7, 0) else (rng (v3.length : Int) (w64 ((mx v1.1.N 1) - 1)) (w64 ((mn (w64 ((v3.length : Int) + 1)) (w64 (v1.1.N + v4.1.N))) - 1))).bind fun _ => (prt v3 ((w64 ((mx v1.1.N 1) - 1)).toNat) ((w64 ((mn (w64 ((v3.length : Int) + 1)) (w64 (v1.1.N + v4.1.N))) - 1)).toNat - (w64 ((mx v1.1.N 1) - 1)).toNat)).bind fun v8 => (value_OfText (encs v8)).bind fun v9 => some (v9, 0))))) else (bif v1.1.NaN then (value_OfText []).bind fun v10 => some (v10, 0) else (bif (decide ((mx v1.1.N 1) ≥ (w64 ((v3.length : Int) + 1)))) then (value_OfText []).bind fun v11 => some (v11, 0) else (rng (v3.length : Int) (w64 ((mx v1.1.N 1) - 1)) (w64 ((w64 ((v3.length : Int) + 1)) - 1))).bind fun _ => (prt v3 ((w64 ((mx v1.1.N 1) - 1)).toNat) ((w64 ((w64 ((v3.length : Int) + 1)) - 1)).toNat - (w64 ((mx v1.1.N 1) - 1)).toNat)).bind fun v12 => (value_OfText (encs v12)).bind fun v13 => some (v13, 0)))))
noncomputable def value_OfTruth (b : Bool) : Option TValue :=
  some (TValue.mk 1 [] b 0 false [])
noncomputable def call_caller_do (c : TCaller) (f : Str) : Option (TValue × Int) :=
  (bif (f == [108, 97, 115, 116]) then (value_OfNumber c.at_.Size).bind fun v1 => some (v1.1, v1.2) else (bif (f == [112, 111, 115, 105, 116, 105, 111, 110]) then (value_OfNumber c.at_.Position).bind fun v2 => some (v2.1, v2.2) else (bif (f == [99, 111, 117, 110, 116]) then (at' c.args 0).bind fun v3 => (value_OfNumber (v3.Set.length : Int)).bind fun v4 => some (v4.1, v4.2) else (bif (f == [115, 116, 114, 105, 110, 103, 45, 108, 101, 110, 103, 116, 104]) then (call_caller_text c 0).bind fun v5 => (runes v5).bind fun v6 => (value_OfNumber (v6.length : Int)).bind fun v7 => some (v7.1, v7.2) else (bif (f == [115, 117, 98, 115, 116, 114, 105, 110, 103]) then (call_caller_substring c).bind fun v8 => some (v8.1, v8.2) else (bif (f == [98, 111, 111, 108, 101, 97, 110]) then none else (bif (f == [110, 111, 116]) then none else (bif (f == [116, 114, 117, 101]) then (bif (f == [116, 114, 117, 101]) then (value_OfTruth (f == [116, 114, 117, 101])).bind fun v11 => some (v11, 0) else (bif (f == [108, 97, 110, 103]) then none else (bif (f == [115, 117, 109]) then none else (bif (f == [110, 117, 109, 98, 101, 114]) then (bif (f == [110, 117, 109, 98, 101, 114]) then (call_caller_number c 0).bind fun v12 => some (v12.1, v12.2) else none) else (bif (f == [102, 108, 111, 111, 114]) then (bif (f == [102, 108, 111, 111, 114]) then (call_caller_number c 0).bind fun v13 => some (v13.1, v13.2) else none) else (bif (f == [99, 101, 105, 108, 105, 110, 103]) then (bif (f == [99, 101, 105, 108, 105, 110, 103]) then (call_caller_number c 0).bind fun v14 => some (v14.1, v14.2) else none) else (bif (f == [114, 111, 117, 110, 100]) then (call_caller_number c 0).bind fun v15 => some (v15.1, v15.2) else none))))))) else (bif (f == [102, 97, 108, 115, 101]) then (value_OfTruth (f == [116, 114, 117, 101])).bind fun v16 => some (v16, 0) else (bif (f == [108, 97, 110, 103]) then none else (bif (f == [115, 117, 109]) then none else (bif (f == [110, 117, 109, 98, 101, 114]) then (bif (f == [110, 117, 109, 98, 101, 114]) then (call_caller_number c 0).bind fun v17 => some (v17.1, v17.2) else none) else (bif (f == [102, 108, 111, 111, 114]) then (bif (f == [102, 108, 111, 111, 114]) then (call_caller_number c 0).bind fun v18 => some (v18.1, v18.2) else none) else (bif (f == [99, 101, 105, 108, 105, 110, 103]) then (bif (f == [99, 101, 105, 108, 105, 110, 103]) then (call_caller_number c 0).bind fun v19 => some (v19.1, v19.2) else none) else (bif (f == [114, 111, 117, 110, 100]) then (call_caller_number c 0).bind fun v20 => some (v20.1, v20.2) else none)))))))))))))))
noncomputable def call_Do (x : (Option TIndex)) (at_ : TPlace) (name : Str) (args : (List TValue)) : Option (TValue × Int) :=
  (bif x.isNone then some ((TValue.mk 0 [] false 0 false []), 1) else (call_shapes).bind fun v1 => (bif (!((mget v1 name).isSome)) then some ((TValue.mk 0 [] false 0 false []), 5) else (bif (decide ((args.length : Int) < ((mget v1 name).getD (TShape.mk 0 0 false)).least)) then some ((TValue.mk 0 [] false 0 false []), 5) else (bif (decide ((args.length : Int) > ((mget v1 name).getD (TShape.mk 0 0 false)).most)) then some ((TValue.mk 0 [] false 0 false []), 5) else (bif ((mget v1 name).getD (TShape.mk 0 0 false)).set_ then (bif (decide ((args.length : Int) > 0)) then (at' args 0).bind fun v2 => (bif (v2.Kind != 0) then some ((TValue.mk 0 [] false 0 false []), 5) else (call_caller_do (TCaller.mk x at_ args) name).bind fun v3 => some (v3.1, v3.2)) else (call_caller_do (TCaller.mk x at_ args) name).bind fun v4 => some (v4.1, v4.2)) else (call_caller_do (TCaller.mk x at_ args) name).bind fun v5 => some (v5.1, v5.2))))))
noncomputable def call_Is (name : Str) : Option Bool :=
  (call_shapes).bind fun v1 => some ((mget v1 name).isSome)
noncomputable def apostillelaw17_awake : Option Bool :=
  (parse_Parse [60, 97, 47, 62]).bind fun v1 => (ident_Of v1.1).bind fun v2 => (value_OfNumber 2).bind fun v3 => ((value_OfText [49, 50, 51, 52, 53]).bind fun v4 => (call_Do v2.1 (TPlace.mk (TPoint.mk 0 0 0) 0 0) [115, 117, 98, 115, 116, 114, 105, 110, 103] [v4, v3.1]).bind fun v5 => some (v5.2, v5.1.Kind, v5.1.Set, v5.1.Bool_, v5.1.N, v5.1.NaN, v5.1.Text) : Option ((Int × Int × (List TPoint) × Bool × Int × Bool × Str))).bind (fun (q6 : Int × Int × (List TPoint) × Bool × Int × Bool × Str) => (bif (v1.2 == 0) then (bif (v2.2 == 0) then (bif (q6.1 == 0) then (bif (q6.2.2.2.2.2.2 == [50, 51, 52, 53]) then (call_Is [99, 111, 117, 110, 116]).bind fun v7 => some v7 else some false) else some false) else some false) else some false))
noncomputable def apostilleref10_Same_b1 (a : (List TPoint)) (b : (List TPoint)) (y1 : Int) : Option (Int ⊕ (Unit ⊕ Unit)) :=
  (bif (decide (y1 < (a.length : Int))) then (at' a y1).bind fun v2 => (at' b y1).bind fun v3 => (bif (!(TPoint.eqb v2 v3)) then some (.inr (Sum.inl ())) else some (.inl (w64 (y1 + 1)))) else some (.inr (Sum.inr ())))
noncomputable def apostilleref10_Same (a : (List TPoint)) (b : (List TPoint)) : Option Bool :=
  (bif ((a.length : Int) != (b.length : Int)) then some false else (iter (apostilleref10_Same_b1 a b) 0).bind (Sum.elim (fun (q4 : Unit) => some false) (fun (q5 : Unit) => some true)))
noncomputable def apostilleref16_Same (a : TValue) (b : TValue) : Option Bool :=
  (bif (a.Kind == b.Kind) then (apostilleref10_Same a.Set b.Set).bind fun v1 => (bif v1 then (bif (a.Bool_ == b.Bool_) then (bif (a.N == b.N) then (bif (a.NaN == b.NaN) then some (a.Text == b.Text) else some false) else some false) else some false) else some false) else some false)
noncomputable def apostillelaw17_CallNil (name : Str) : Option Bool :=
  ((apostillelaw17_awake).bind fun v1 => (bif (!v1) then some true else some (decide ((name.length : Int) > 100))) : Option (Bool)).bind (fun (q2 : Bool) => (bif q2 then (apostillelaw17_awake).bind fun v3 => some v3 else (call_Do none (TPlace.mk (TPoint.mk 0 0 0) 0 0) name []).bind fun v4 => (bif (v4.2 == 1) then (apostilleref16_Same v4.1 (TValue.mk 0 [] false 0 false [])).bind fun v5 => some v5 else some false)))
end G
