/-
  PLAIN FUNCTIONS, printed by aw.py: what the functions compute. No program, no memory. Conditions: none.
-/
import Derived.Test.YtipbfnjpfmmkfaaGreatDoorAbsM3
import Derived.Lib.IndexMore
import Derived.Shelf.Strings.Replace
set_option linter.unusedVariables false
namespace G
open W
structure TAcceptRange where
  lo : UInt8
  hi : UInt8
structure TDecl where
  Prefix : Str
  URI : Str
def TDecl.eqb (x y : TDecl) : Bool := ((x.Prefix == y.Prefix) && (x.URI == y.URI))
structure TAttr where
  Prefix : Str
  Local : Str
  URI : Str
  Value : Str
structure TNode where
  Kind : Int
  Parent : Int
  Prefix : Str
  Local : Str
  URI : Str
  Text : Str
  Decls : (List TDecl)
  Attrs : (List TAttr)
structure TOpen_ where
  n : Int
  name : Str
structure TSpan where
  from_ : Int
  to_ : Int
def TSpan.ints (x : TSpan) : List Int := [x.from_, x.to_]
def TSpan.eqb (x y : TSpan) : Bool := x.ints == y.ints
structure TNoCopy where

def TNoCopy.ints (x : TNoCopy) : List Int := []
def TNoCopy.eqb (x y : TNoCopy) : Bool := x.ints == y.ints
structure TBool where
  blank : TNoCopy
  v : Int
structure TMutex2 where
  state : Int
  sema : Int
def TMutex2.ints (x : TMutex2) : List Int := [x.state, x.sema]
def TMutex2.eqb (x y : TMutex2) : Bool := x.ints == y.ints
structure TMutex where
  blank : TNoCopy
  mu : TMutex2
structure TOnce where
  blank : TNoCopy
  done : TBool
  m : TMutex
structure TDoc where
  l : (List TNode)
  end_ : (List Int)
  top : Int
structure TPoint where
  N : Int
  Part : Int
  I : Int
def TPoint.ints (x : TPoint) : List Int := [x.N, x.Part, x.I]
def TPoint.eqb (x y : TPoint) : Bool := x.ints == y.ints
def utf8First : Str := [240, 240, 240, 240, 240, 240, 240, 240, 240, 240, 240, 240, 240, 240, 240, 240, 240, 240, 240, 240, 240, 240, 240, 240, 240, 240, 240, 240, 240, 240, 240, 240, 240, 240, 240, 240, 240, 240, 240, 240, 240, 240, 240, 240, 240, 240, 240, 240, 240, 240, 240, 240, 240, 240, 240, 240, 240, 240, 240, 240, 240, 240, 240, 240, 240, 240, 240, 240, 240, 240, 240, 240, 240, 240, 240, 240, 240, 240, 240, 240, 240, 240, 240, 240, 240, 240, 240, 240, 240, 240, 240, 240, 240, 240, 240, 240, 240, 240, 240, 240, 240, 240, 240, 240, 240, 240, 240, 240, 240, 240, 240, 240, 240, 240, 240, 240, 240, 240, 240, 240, 240, 240, 240, 240, 240, 240, 240, 240, 241, 241, 241, 241, 241, 241, 241, 241, 241, 241, 241, 241, 241, 241, 241, 241, 241, 241, 241, 241, 241, 241, 241, 241, 241, 241, 241, 241, 241, 241, 241, 241, 241, 241, 241, 241, 241, 241, 241, 241, 241, 241, 241, 241, 241, 241, 241, 241, 241, 241, 241, 241, 241, 241, 241, 241, 241, 241, 241, 241, 241, 241, 241, 241, 241, 241, 2, 2, 2, 2, 2, 2, 2, 2, 2, 2, 2, 2, 2, 2, 2, 2, 2, 2, 2, 2, 2, 2, 2, 2, 2, 2, 2, 2, 2, 2, 19, 3, 3, 3, 3, 3, 3, 3, 3, 3, 3, 3, 3, 35, 3, 3, 52, 4, 4, 4, 68, 241, 241, 241, 241, 241, 241, 241, 241, 241, 241, 241]
def utf8Ranges : List TAcceptRange := [⟨128, 191⟩, ⟨160, 191⟩, ⟨128, 159⟩, ⟨144, 191⟩, ⟨128, 143⟩, ⟨0, 0⟩, ⟨0, 0⟩, ⟨0, 0⟩, ⟨0, 0⟩, ⟨0, 0⟩, ⟨0, 0⟩, ⟨0, 0⟩, ⟨0, 0⟩, ⟨0, 0⟩, ⟨0, 0⟩, ⟨0, 0⟩]
noncomputable def utf8_word_byte (s : (List UInt8)) : Option Int :=
  (at' s 0).bind fun v1 => (at' s 1).bind fun v2 => (at' s 2).bind fun v3 => (at' s 3).bind fun v4 => (at' s 4).bind fun v5 => (at' s 5).bind fun v6 => (at' s 6).bind fun v7 => (at' s 7).bind fun v8 => some (v64 (bor 64 (v64 (bor 64 (v64 (bor 64 (v64 (bor 64 (v64 (bor 64 (v64 (bor 64 (v64 (bor 64 (v64 (v1.toNat : Int)) (v64 ((v64 (v2.toNat : Int)) * 2 ^ 8)))) (v64 ((v64 (v3.toNat : Int)) * 2 ^ 16)))) (v64 ((v64 (v4.toNat : Int)) * 2 ^ 24)))) (v64 ((v64 (v5.toNat : Int)) * 2 ^ 32)))) (v64 ((v64 (v6.toNat : Int)) * 2 ^ 40)))) (v64 ((v64 (v7.toNat : Int)) * 2 ^ 48)))) (v64 ((v64 (v8.toNat : Int)) * 2 ^ 56))))
noncomputable def utf8_Valid_b2 (y13 : (List UInt8)) : Option ((List UInt8) ⊕ (List UInt8)) :=
  (bif (decide ((y13.length : Int) > 32)) then (sub' y13 8 (y13.length : Int)).bind fun v14 => (sub' y13 16 (y13.length : Int)).bind fun v15 => (sub' y13 24 (y13.length : Int)).bind fun v16 => (utf8_word_byte y13).bind fun v17 => (utf8_word_byte v14).bind fun v18 => (utf8_word_byte v15).bind fun v19 => (utf8_word_byte v16).bind fun v20 => (bif ((v64 (band 64 (v64 (bor 64 (v64 (bor 64 v17 v18)) (v64 (bor 64 v19 v20)))) 9259542123273814144)) == 0) then (sub' y13 32 (y13.length : Int)).bind fun v21 => some (.inl v21) else some (.inr y13)) else some (.inr y13))
noncomputable def utf8_Valid_b1 (y2 : (List UInt8)) : Option ((List UInt8) ⊕ (Unit ⊕ Unit)) :=
  (bif (decide ((y2.length : Int) > 0)) then (at' y2 0).bind fun v3 => (bif (decide ((v3.toNat : Int) < 128)) then (sub' y2 1 (y2.length : Int)).bind fun v4 => ((bif (decide ((v4.length : Int) > 8)) then (utf8_word_byte v4).bind fun v5 => some ((v64 (band 64 v5 9259542123273814144)) == 0) else some false) : Option (Bool)).bind (fun (q6 : Bool) => (bif q6 then (sub' v4 8 (v4.length : Int)).bind fun v7 => ((bif (decide ((v7.length : Int) > 16)) then (sub' v7 8 (v7.length : Int)).bind fun v8 => (utf8_word_byte v7).bind fun v9 => (utf8_word_byte v8).bind fun v10 => some ((v64 (band 64 (v64 (bor 64 v9 v10)) 9259542123273814144)) == 0) else some false) : Option (Bool)).bind (fun (q11 : Bool) => (bif q11 then (sub' v7 16 (v7.length : Int)).bind fun v12 => (iter (utf8_Valid_b2) v12).bind (fun (q22 : (List UInt8)) => some (.inl q22)) else some (.inl v7))) else some (.inl v4))) else (at' utf8First (v3.toNat : Int)).bind fun v23 => (at' utf8Ranges ((u8 ((v23.toNat : Int).fdiv (2 ^ 4))).toNat : Int)).bind fun v24 => (bif ((w64 ((u8 (band 8 (v23.toNat : Int) 7)).toNat : Int)) == 2) then (bif (decide ((y2.length : Int) < 2)) then some (.inr (Sum.inl ())) else (at' y2 1).bind fun v25 => (bif (decide ((v25.toNat : Int) < (v24.lo.toNat : Int))) then some (.inr (Sum.inl ())) else (at' y2 1).bind fun v26 => (bif (decide ((v24.hi.toNat : Int) < (v26.toNat : Int))) then some (.inr (Sum.inl ())) else (sub' y2 2 (y2.length : Int)).bind fun v27 => some (.inl v27)))) else (bif ((w64 ((u8 (band 8 (v23.toNat : Int) 7)).toNat : Int)) == 3) then (bif (decide ((y2.length : Int) < 3)) then some (.inr (Sum.inl ())) else (at' y2 1).bind fun v28 => (bif (decide ((v28.toNat : Int) < (v24.lo.toNat : Int))) then some (.inr (Sum.inl ())) else (at' y2 1).bind fun v29 => (bif (decide ((v24.hi.toNat : Int) < (v29.toNat : Int))) then some (.inr (Sum.inl ())) else (at' y2 2).bind fun v30 => (bif (decide ((v30.toNat : Int) < 128)) then some (.inr (Sum.inl ())) else (at' y2 2).bind fun v31 => (bif (decide (191 < (v31.toNat : Int))) then some (.inr (Sum.inl ())) else (sub' y2 3 (y2.length : Int)).bind fun v32 => some (.inl v32)))))) else (bif ((w64 ((u8 (band 8 (v23.toNat : Int) 7)).toNat : Int)) == 4) then (bif (decide ((y2.length : Int) < 4)) then some (.inr (Sum.inl ())) else (at' y2 1).bind fun v33 => (bif (decide ((v33.toNat : Int) < (v24.lo.toNat : Int))) then some (.inr (Sum.inl ())) else (at' y2 1).bind fun v34 => (bif (decide ((v24.hi.toNat : Int) < (v34.toNat : Int))) then some (.inr (Sum.inl ())) else (at' y2 2).bind fun v35 => (bif (decide ((v35.toNat : Int) < 128)) then some (.inr (Sum.inl ())) else (at' y2 2).bind fun v36 => (bif (decide (191 < (v36.toNat : Int))) then some (.inr (Sum.inl ())) else (at' y2 3).bind fun v37 => (bif (decide ((v37.toNat : Int) < 128)) then some (.inr (Sum.inl ())) else (at' y2 3).bind fun v38 => (bif (decide (191 < (v38.toNat : Int))) then some (.inr (Sum.inl ())) else (sub' y2 4 (y2.length : Int)).bind fun v39 => some (.inl v39)))))))) else some (.inr (Sum.inl ())))))) else some (.inr (Sum.inr ())))
noncomputable def utf8_Valid (p : (List UInt8)) : Option Bool :=
  (sub3 p 0 (p.length : Int) (p.length : Int)).bind fun v1 => (iter (utf8_Valid_b1) v1).bind (Sum.elim (fun (q40 : Unit) => some false) (fun (q41 : Unit) => some true))
noncomputable def utf_Valid (b : (List UInt8)) : Option Bool :=
  (utf8_Valid b).bind fun v1 => some v1
noncomputable def utf8_DecodeRune_b1 (p : (List UInt8)) (y1 : Unit) : Option (Unit ⊕ (Int ⊕ Unit)) :=
  (bif (decide (0 < (p.length : Int))) then (at' p 0).bind fun v2 => (bif (decide ((v2.toNat : Int) < 128)) then some (.inr (Sum.inl (w32 (v2.toNat : Int)))) else some (.inr (Sum.inr ()))) else some (.inr (Sum.inr ())))
noncomputable def utf8_DecodeRune (p : (List UInt8)) : Option (Int × Int) :=
  (iter (utf8_DecodeRune_b1 p) ()).bind (Sum.elim (fun (q3 : Int) => some (q3, 1)) (fun (q4 : Unit) => none))
noncomputable def utf_Chars_b1 (b : (List UInt8)) (y2 : Int × (List Int)) : Option ((Int × (List Int)) ⊕ (List Int)) :=
  (bif (decide (y2.1 < (b.length : Int))) then (sub' b y2.1 (b.length : Int)).bind fun v3 => (utf8_DecodeRune v3).bind fun v4 => (app 4 y2.2 [v4.1]).bind fun v5 => some (.inl ((w64 (y2.1 + v4.2)), v5)) else some (.inr y2.2))
noncomputable def utf_Chars (b : (List UInt8)) : Option ((List Int) × Bool) :=
  (utf_Valid b).bind fun v1 => (bif (!v1) then some ([], false) else (iter (utf_Chars_b1 b) (0, [])).bind (fun (q6 : (List Int)) => some (q6, true)))
noncomputable def utf_Xml (r_ : Int) : Option Bool :=
  ((bif (r_ == 9) then (bif (r_ == 9) then some (Sum.inl ()) else some (Sum.inr ())) else (bif (r_ == 10) then (bif (r_ == 10) then some (Sum.inl ()) else some (Sum.inr ())) else (bif (r_ == 13) then some (Sum.inl ()) else some (Sum.inr ())))) : Option (Unit ⊕ Unit)).bind (Sum.elim (fun (q1 : Unit) => some true) (fun (q2 : Unit) => (bif (decide (r_ ≥ 32)) then (bif (decide (r_ ≤ 55295)) then some true else (bif (decide (r_ ≥ 57344)) then (bif (decide (r_ ≤ 65533)) then some true else (bif (decide (r_ ≥ 65536)) then some (decide (r_ ≤ 1114111)) else some false)) else (bif (decide (r_ ≥ 65536)) then some (decide (r_ ≤ 1114111)) else some false))) else (bif (decide (r_ ≥ 57344)) then (bif (decide (r_ ≤ 65533)) then some true else (bif (decide (r_ ≥ 65536)) then some (decide (r_ ≤ 1114111)) else some false)) else (bif (decide (r_ ≥ 65536)) then some (decide (r_ ≤ 1114111)) else some false)))))
noncomputable def utf_Text_b1 (v1 : (List Int) × Bool) (y2 : Bool × Int) : Option ((Bool × Int) ⊕ Bool) :=
  (bif (decide (y2.2 < (v1.1.length : Int))) then (at' v1.1 y2.2).bind fun v3 => (bif y2.1 then (utf_Xml v3).bind fun v4 => some (.inl (v4, (w64 (y2.2 + 1)))) else some (.inl (false, (w64 (y2.2 + 1))))) else some (.inr y2.1))
noncomputable def utf_Text (b : (List UInt8)) : Option Bool :=
  (utf_Chars b).bind fun v1 => (iter (utf_Text_b1 v1) (v1.2, 0)).bind (fun (q5 : Bool) => some q5)
noncomputable def strings_Count (s : Str) (sep : Str) : Option Int :=
  bif decide (s.length < 4294967281 ∧ 1 ≤ sep.length) then some ((Go.Lib.countB ⟨s.toArray⟩ ⟨sep.toArray⟩ : Int)) else none
noncomputable def stringslite_Index (s : Str) (sep : Str) : Option Int :=
  bif decide (s.length < 4294967281) then some (Go.Lib.index s sep) else none
noncomputable def strings_Index (s : Str) (substr : Str) : Option Int :=
  (stringslite_Index s substr).bind fun v1 => some v1
noncomputable def utf8_DecodeRuneInString (s : Str) : Option (Int × Int) :=
  (bif (!(s == [])) then (at' s 0).bind fun v1 => (bif (decide ((v1.toNat : Int) < 128)) then (at' s 0).bind fun v2 => some ((w32 (v2.toNat : Int)), 1) else none) else none)
noncomputable def strings_Builder_copyCheck_s2 (u1 : Bool) : Option Unit :=
  (bif u1 then some () else some ())
noncomputable def strings_Builder_grow_s3 (u1 : Int) (u2 : Bool) : Option Unit :=
  (mnz (w64 ((w64 (2 * 0)) + u1))).bind fun v1 => (rng (v1 : Int) 0 0).bind fun _ => some ()
noncomputable def strings_Builder_Grow_s1 (u1 : Int) (u2 : Bool) : Option Unit :=
  (strings_Builder_copyCheck_s2 u2).bind fun v1 => (bif (decide (u1 < 0)) then none else (bif (decide ((w64 (0 - 0)) < u1)) then (strings_Builder_grow_s3 u1 false).bind fun v2 => some () else some ()))
noncomputable def strings_Builder_copyCheck_s5 (u1 : Bool) (u2 : (List UInt8)) : Option Unit :=
  (bif u1 then some () else some ())
noncomputable def strings_Builder_WriteString_s4 (u1 : Str) (u2 : Bool) (u3 : (List UInt8)) : Option (Int × (List UInt8)) :=
  (strings_Builder_copyCheck_s5 u2 u3).bind fun v1 => (app 1 u3 u1).bind fun v2 => some ((u1.length : Int), v2)
noncomputable def strings_Builder_String_s6 (u1 : Bool) (u2 : (List UInt8)) : Option Str :=
  (unsf u2).bind fun v1 => some v1
noncomputable def strings_Replace_b1 (s : Str) (old : Str) (new : Str) (v2 : Int) (y5 : Int × Int × (List UInt8)) : Option ((Int × Int × (List UInt8)) ⊕ (Int × (List UInt8))) :=
  (bif (decide (y5.2.1 < v2)) then (sub' s y5.1 (s.length : Int)).bind fun v6 => (strings_Index v6 old).bind fun v7 => (sub' s y5.1 (w64 (y5.1 + v7))).bind fun v8 => (strings_Builder_WriteString_s4 v8 false y5.2.2).bind fun v9 => (strings_Builder_WriteString_s4 new false v9.2).bind fun v10 => some (.inl ((w64 ((w64 (y5.1 + v7)) + (old.length : Int))), (w64 (y5.2.1 + 1)), v10.2)) else some (.inr (y5.1, y5.2.2)))
noncomputable def strings_Replace_b2 (s : Str) (new : Str) (v2 : Int) (y16 : Int × Int × (List UInt8)) : Option ((Int × Int × (List UInt8)) ⊕ (Int × (List UInt8))) :=
  (bif (decide (y16.2.1 < (w64 (v2 - 1)))) then (sub' s y16.1 (s.length : Int)).bind fun v17 => (utf8_DecodeRuneInString v17).bind fun v18 => (sub' s y16.1 (w64 (y16.1 + v18.2))).bind fun v19 => (strings_Builder_WriteString_s4 v19 false y16.2.2).bind fun v20 => (strings_Builder_WriteString_s4 new false v20.2).bind fun v21 => some (.inl ((w64 (y16.1 + v18.2)), (w64 (y16.2.1 + 1)), v21.2)) else some (.inr (y16.1, y16.2.2)))
noncomputable def strings_Replace_b3 (s : Str) (old : Str) (new : Str) (n : Int) (y27 : Int × Int × (List UInt8)) : Option ((Int × Int × (List UInt8)) ⊕ (Int × (List UInt8))) :=
  (bif (decide (y27.2.1 < n)) then (sub' s y27.1 (s.length : Int)).bind fun v28 => (strings_Index v28 old).bind fun v29 => (sub' s y27.1 (w64 (y27.1 + v29))).bind fun v30 => (strings_Builder_WriteString_s4 v30 false y27.2.2).bind fun v31 => (strings_Builder_WriteString_s4 new false v31.2).bind fun v32 => some (.inl ((w64 ((w64 (y27.1 + v29)) + (old.length : Int))), (w64 (y27.2.1 + 1)), v32.2)) else some (.inr (y27.1, y27.2.2)))
noncomputable def strings_Replace_b4 (s : Str) (new : Str) (n : Int) (y38 : Int × Int × (List UInt8)) : Option ((Int × Int × (List UInt8)) ⊕ (Int × (List UInt8))) :=
  (bif (decide (y38.2.1 < (w64 (n - 1)))) then (sub' s y38.1 (s.length : Int)).bind fun v39 => (utf8_DecodeRuneInString v39).bind fun v40 => (sub' s y38.1 (w64 (y38.1 + v40.2))).bind fun v41 => (strings_Builder_WriteString_s4 v41 false y38.2.2).bind fun v42 => (strings_Builder_WriteString_s4 new false v42.2).bind fun v43 => some (.inl ((w64 (y38.1 + v40.2)), (w64 (y38.2.1 + 1)), v43.2)) else some (.inr (y38.1, y38.2.2)))
noncomputable def strings_Replace (s : Str) (old : Str) (new : Str) (n : Int) : Option Str :=
  ((bif (old == new) then some true else some (n == 0)) : Option (Bool)).bind (fun (q1 : Bool) => (bif q1 then some s else (strings_Count s old).bind fun v2 => (bif (v2 == 0) then some s else ((bif (decide (n < 0)) then some true else some (decide (v2 < n))) : Option (Bool)).bind (fun (q3 : Bool) => (bif q3 then (strings_Builder_Grow_s1 (w64 ((s.length : Int) + (w64 (v2 * (w64 ((new.length : Int) - (old.length : Int))))))) true).bind fun v4 => (bif (decide ((old.length : Int) > 0)) then (iter (strings_Replace_b1 s old new v2) (0, 0, [])).bind (fun (q11 : Int × (List UInt8)) => (sub' s q11.1 (s.length : Int)).bind fun v12 => (strings_Builder_WriteString_s4 v12 false q11.2).bind fun v13 => (strings_Builder_String_s6 false v13.2).bind fun v14 => some v14) else (strings_Builder_WriteString_s4 new false []).bind fun v15 => (iter (strings_Replace_b2 s new v2) (0, 0, v15.2)).bind (fun (q22 : Int × (List UInt8)) => (sub' s q22.1 (s.length : Int)).bind fun v23 => (strings_Builder_WriteString_s4 v23 false q22.2).bind fun v24 => (strings_Builder_String_s6 false v24.2).bind fun v25 => some v25)) else (strings_Builder_Grow_s1 (w64 ((s.length : Int) + (w64 (n * (w64 ((new.length : Int) - (old.length : Int))))))) true).bind fun v26 => (bif (decide ((old.length : Int) > 0)) then (iter (strings_Replace_b3 s old new n) (0, 0, [])).bind (fun (q33 : Int × (List UInt8)) => (sub' s q33.1 (s.length : Int)).bind fun v34 => (strings_Builder_WriteString_s4 v34 false q33.2).bind fun v35 => (strings_Builder_String_s6 false v35.2).bind fun v36 => some v36) else (strings_Builder_WriteString_s4 new false []).bind fun v37 => (iter (strings_Replace_b4 s new n) (0, 0, v37.2)).bind (fun (q44 : Int × (List UInt8)) => (sub' s q44.1 (s.length : Int)).bind fun v45 => (strings_Builder_WriteString_s4 v45 false q44.2).bind fun v46 => (strings_Builder_String_s6 false v46.2).bind fun v47 => some v47)))))))
noncomputable def strings_ReplaceAll (s : Str) (old : Str) (new : Str) : Option Str :=
  (strings_Replace s old new (-1)).bind fun v1 => some v1
noncomputable def chars_Lines (s : Str) : Option Str :=
  (strings_ReplaceAll s [13, 10] [10]).bind fun v1 => (strings_ReplaceAll v1 [13] [10]).bind fun v2 => some v2
noncomputable def name_Blank (c : UInt8) : Option Bool :=
  (bif ((c.toNat : Int) == 32) then some true else (bif ((c.toNat : Int) == 9) then some true else (bif ((c.toNat : Int) == 10) then some true else some ((c.toNat : Int) == 13))))
noncomputable def stringslite_HasPrefix (s : Str) (prefix_ : Str) : Option Bool :=
  (bif (decide ((s.length : Int) ≥ (prefix_.length : Int))) then (sub' s 0 (prefix_.length : Int)).bind fun v1 => some (v1 == prefix_) else some false)
noncomputable def strings_HasPrefix (s : Str) (prefix_ : Str) : Option Bool :=
  (stringslite_HasPrefix s prefix_).bind fun v1 => some v1
noncomputable def stringslite_CutPrefix (s : Str) (prefix_ : Str) : Option (Str × Bool) :=
  (stringslite_HasPrefix s prefix_).bind fun v1 => (bif (!v1) then some (s, false) else (sub' s (prefix_.length : Int) (s.length : Int)).bind fun v2 => some (v2, true))
noncomputable def strings_CutPrefix (s : Str) (prefix_ : Str) : Option (Str × Bool) :=
  (stringslite_CutPrefix s prefix_).bind fun v1 => some (v1.1, v1.2)
noncomputable def stringslite_Cut (s : Str) (sep : Str) : Option (Str × Str × Bool) :=
  (stringslite_Index s sep).bind fun v1 => (bif (decide (v1 ≥ 0)) then (sub' s 0 v1).bind fun v2 => (sub' s (w64 (v1 + (sep.length : Int))) (s.length : Int)).bind fun v3 => some (v2, v3, true) else some (s, [], false))
noncomputable def strings_Cut (s : Str) (sep : Str) : Option (Str × Str × Bool) :=
  (stringslite_Cut s sep).bind fun v1 => some (v1.1, v1.2.1, v1.2.2)
noncomputable def name_in_b1 (r_ : Int) (l : (List TSpan)) (y1 : Int) : Option (Int ⊕ (Unit ⊕ Unit)) :=
  (bif (decide (y1 < (l.length : Int))) then (at' l y1).bind fun v2 => (bif (decide (r_ ≥ v2.from_)) then (bif (decide (r_ ≤ v2.to_)) then some (.inr (Sum.inl ())) else some (.inl (w64 (y1 + 1)))) else some (.inl (w64 (y1 + 1)))) else some (.inr (Sum.inr ())))
noncomputable def name_in (r_ : Int) (l : (List TSpan)) : Option Bool :=
  (iter (name_in_b1 r_ l) 0).bind (Sum.elim (fun (q3 : Unit) => some true) (fun (q4 : Unit) => some false))
noncomputable def name_Begins (r_ : Int) : Option Bool :=
  (bif (r_ == 95) then some true else (name_in r_ [(TSpan.mk 65 90), (TSpan.mk 97 122), (TSpan.mk 192 214), (TSpan.mk 216 246), (TSpan.mk 248 767), (TSpan.mk 880 893), (TSpan.mk 895 8191), (TSpan.mk 8204 8205), (TSpan.mk 8304 8591), (TSpan.mk 11264 12271), (TSpan.mk 12289 55295), (TSpan.mk 63744 64975), (TSpan.mk 65008 65533), (TSpan.mk 65536 983039)]).bind fun v1 => some v1)
noncomputable def name_Stands (r_ : Int) : Option Bool :=
  (name_Begins r_).bind fun v1 => (bif v1 then some true else (bif (r_ == 45) then some true else (bif (r_ == 46) then some true else (bif (r_ == 183) then some true else (name_in r_ [(TSpan.mk 48 57), (TSpan.mk 768 879), (TSpan.mk 8255 8256)]).bind fun v2 => some v2))))
noncomputable def name_Is_b1 (v1 : (List Int) × Bool) (y4 : Int) : Option (Int ⊕ (Unit ⊕ Unit)) :=
  (bif (decide (y4 < (v1.1.length : Int))) then (at' v1.1 y4).bind fun v5 => (name_Stands v5).bind fun v6 => (bif (!v6) then some (.inr (Sum.inl ())) else some (.inl (w64 (y4 + 1)))) else some (.inr (Sum.inr ())))
noncomputable def name_Is (s : Str) : Option Bool :=
  (utf_Chars s).bind fun v1 => (bif (!v1.2) then some false else (bif ((v1.1.length : Int) == 0) then some false else (at' v1.1 0).bind fun v2 => (name_Begins v2).bind fun v3 => (bif (!v3) then some false else (iter (name_Is_b1 v1) 0).bind (Sum.elim (fun (q7 : Unit) => some false) (fun (q8 : Unit) => some true)))))
noncomputable def name_Split (s : Str) : Option (Str × Str × Bool) :=
  (strings_Cut s [58]).bind fun v1 => (bif (!v1.2.2) then (bif v1.2.2 then (name_Is []).bind fun v2 => (bif (!v2) then some ([], [], false) else (name_Is s).bind fun v3 => (bif (!v3) then some ([], [], false) else some ([], s, true))) else (name_Is s).bind fun v4 => (bif (!v4) then some ([], [], false) else some ([], s, true))) else (bif v1.2.2 then (name_Is v1.1).bind fun v5 => (bif (!v5) then some ([], [], false) else (name_Is v1.2.1).bind fun v6 => (bif (!v6) then some ([], [], false) else some (v1.1, v1.2.1, true))) else (name_Is v1.2.1).bind fun v7 => (bif (!v7) then some ([], [], false) else some (v1.1, v1.2.1, true))))
noncomputable def strings_Contains (s : Str) (substr : Str) : Option Bool :=
  (strings_Index s substr).bind fun v1 => some (decide (v1 ≥ 0))
noncomputable def atomic_b32 (b : Bool) : Option Int :=
  (bif b then some 1 else some 0)
noncomputable def strings_NewReplacer_s7 (u1 : (List Str)) : Option (List Str) :=
  (bif (((u1.length : Int).tmod 2) == 1) then none else (app 16 [] u1).bind fun v1 => some v1)
noncomputable def atomic_Bool_Load_s11 (u1 : (List Str)) : Option Unit :=
  some ()
noncomputable def sync_Mutex_Lock_s14 (u1 : (List Str)) : Option Unit :=
  some ()
noncomputable def sync_Mutex_Lock_2_s13 (u1 : (List Str)) : Option Unit :=
  (sync_Mutex_Lock_s14 u1).bind fun v1 => some ()
noncomputable def atomic_Bool_Load_s15 (u1 : (List Str)) : Option Unit :=
  some ()
noncomputable def strings_Replacer_build_s17_b1 (u1 : (List Str)) (y5 : Bool × Int) : Option ((Bool × Int) ⊕ Bool) :=
  (bif (decide (y5.2 < (u1.length : Int))) then (at' u1 y5.2).bind fun v6 => (bif ((v6.length : Int) != 1) then none else (at' u1 (w64 (y5.2 + 1))).bind fun v7 => (bif ((v7.length : Int) != 1) then some (.inl (false, (w64 (y5.2 + 2)))) else some (.inl (y5.1, (w64 (y5.2 + 2)))))) else some (.inr y5.1))
noncomputable def strings_Replacer_build_s17_b2 (y9 : Int × (List UInt8)) : Option ((Int × (List UInt8)) ⊕ (List UInt8)) :=
  (bif (decide (y9.1 < 256)) then (atA 256 y9.2 y9.1).bind fun v10 => (put y9.2 y9.1 (u8 y9.1)).bind fun v11 => some (.inl ((w64 (y9.1 + 1)), v11)) else some (.inr y9.2))
noncomputable def strings_Replacer_build_s17_b3 (u1 : (List Str)) (y13 : Int × (List UInt8)) : Option ((Int × (List UInt8)) ⊕ (List UInt8)) :=
  (bif (decide (y13.1 ≥ 0)) then (at' u1 y13.1).bind fun v14 => (at' v14 0).bind fun v15 => (at' u1 (w64 (y13.1 + 1))).bind fun v16 => (at' v16 0).bind fun v17 => (atA 256 y13.2 (v15.toNat : Int)).bind fun v18 => (put y13.2 (v15.toNat : Int) v17).bind fun v19 => some (.inl ((w64 (y13.1 - 2)), v19)) else some (.inr y13.2))
noncomputable def strings_Replacer_build_s17 (u1 : (List Str)) : Option (List UInt8) :=
  ((bif ((u1.length : Int) == 2) then (at' u1 0).bind fun v1 => some (decide ((v1.length : Int) > 1)) else some false) : Option (Bool)).bind (fun (q2 : Bool) => (bif q2 then none else (iter (strings_Replacer_build_s17_b1 u1) (true, 0)).bind (fun (q8 : Bool) => (bif q8 then (iter (strings_Replacer_build_s17_b2) (0, (List.replicate 256 0))).bind (fun (q12 : (List UInt8)) => (iter (strings_Replacer_build_s17_b3 u1) ((w64 ((u1.length : Int) - 2)), q12)).bind (fun (q20 : (List UInt8)) => some q20)) else none))))
noncomputable def strings_Replacer_buildOnce_s16 (u1 : (List Str)) : Option (List UInt8) :=
  (strings_Replacer_build_s17 u1).bind fun v1 => some v1
noncomputable def atomic_Bool_Store_s18 (u1 : (List UInt8)) : Option Unit :=
  some ()
noncomputable def sync_Mutex_Unlock_s20 (u1 : (List UInt8)) : Option Unit :=
  some ()
noncomputable def sync_Mutex_Unlock_2_s19 (u1 : (List UInt8)) : Option Unit :=
  (sync_Mutex_Unlock_s20 u1).bind fun v1 => some ()
noncomputable def sync_Once_doSlow_s12 (u1 : (List Str)) : Option (List UInt8) :=
  (sync_Mutex_Lock_2_s13 u1).bind fun v1 => (atomic_Bool_Load_s15 u1).bind fun v2 => (strings_Replacer_buildOnce_s16 u1).bind fun v3 => (atomic_Bool_Store_s18 v3).bind fun v4 => (sync_Mutex_Unlock_2_s19 v3).bind fun v5 => some v3
noncomputable def sync_Once_Do_s10 (u1 : (List Str)) : Option (List UInt8) :=
  (atomic_Bool_Load_s11 u1).bind fun v1 => (sync_Once_doSlow_s12 u1).bind fun v2 => some v2
noncomputable def strings_byteReplacer_Replace_s21_b1 (u1 : Str) (u2 : (List UInt8)) (y1 : Int ⊕ (Int × (List UInt8))) : Option ((Int ⊕ (Int × (List UInt8))) ⊕ (Unit ⊕ (List UInt8))) :=
  (Sum.elim (fun (y1 : Int) => (bif (decide (y1 < (u1.length : Int))) then (at' u1 y1).bind fun v2 => (atA 256 u2 (v2.toNat : Int)).bind fun v3 => (bif ((v3.toNat : Int) != (v2.toNat : Int)) then (atA 256 u2 (v2.toNat : Int)).bind fun v4 => (at' u1 y1).bind fun v5 => (put u1 y1 v4).bind fun v6 => some (.inl (Sum.inr ((w64 (y1 + 1)), v6))) else some (.inl (Sum.inl (w64 (y1 + 1))))) else some (.inr (Sum.inl ())))) (fun (y1 : Int × (List UInt8)) => (bif (decide (y1.1 < (u1.length : Int))) then (at' u1 y1.1).bind fun v7 => (atA 256 u2 (v7.toNat : Int)).bind fun v8 => (bif ((v8.toNat : Int) != (v7.toNat : Int)) then (ne0 y1.2).bind fun v9 => (atA 256 u2 (v7.toNat : Int)).bind fun v10 => (at' y1.2 y1.1).bind fun v11 => (put y1.2 y1.1 v10).bind fun v12 => some (.inl (Sum.inr ((w64 (y1.1 + 1)), v12))) else some (.inl (Sum.inr ((w64 (y1.1 + 1)), y1.2)))) else some (.inr (Sum.inr y1.2))))) y1
noncomputable def strings_byteReplacer_Replace_s21 (u1 : Str) (u2 : (List UInt8)) : Option Str :=
  (iter (strings_byteReplacer_Replace_s21_b1 u1 u2) (Sum.inl 0)).bind (Sum.elim (fun (q13 : Unit) => some u1) (fun (q14 : (List UInt8)) => (ne0 q14).bind fun v15 => some q14))
noncomputable def strings_Replacer_Replace_s9 (u1 : Str) (u2 : (List Str)) : Option (Str × (List UInt8)) :=
  (sync_Once_Do_s10 u2).bind fun v1 => (strings_byteReplacer_Replace_s21 u1 v1).bind fun v2 => some (v2, v1)
noncomputable def chars_expand_s8_b1 (u1 : Str) (u2 : (List Str)) (y4 : Unit) : Option (Unit ⊕ (Str × (List UInt8))) :=
  (strings_Cut u1 [38]).bind fun v5 => (strings_Replacer_Replace_s9 v5.1 u2).bind fun v6 => (strings_Builder_WriteString_s4 v6.1 true []).bind fun v7 => (bif (!v5.2.2) then (strings_Builder_String_s6 false v7.2).bind fun v8 => some (.inr (v8, v6.2)) else none)
noncomputable def chars_expand_s8 (u1 : Str) (u2 : (List Str)) : Option (Str × Bool) :=
  ((utf_Text u1).bind fun v1 => (bif (!v1) then some true else (strings_Contains u1 [60]).bind fun v2 => some v2) : Option (Bool)).bind (fun (q3 : Bool) => (bif q3 then some ([], false) else (iter (chars_expand_s8_b1 u1 u2) ()).bind (fun (q10 : Str × (List UInt8)) => some (q10.1, true))))
noncomputable def chars_Value (s : Str) : Option (Str × Bool) :=
  (strings_NewReplacer_s7 [[9], [32], [10], [32], [13], [32]]).bind fun v1 => (chars_expand_s8 s v1).bind fun v2 => some (v2.1, v2.2)
noncomputable def doc_bare (x : TNode) : Option Bool :=
  (bif (x.Prefix == []) then (bif (x.URI == []) then (bif ((x.Decls.length : Int) == 0) then some ((x.Attrs.length : Int) == 0) else some false) else some false) else some false)
noncomputable def doc_stands_b1 (l : (List TNode)) (n : Int) (y1 : Int) : Option (Int ⊕ (Bool ⊕ Unit)) :=
  (bif (decide (y1 ≥ 0)) then (at' l n).bind fun v2 => (bif (y1 == v2.Parent) then (at' l y1).bind fun v3 => (bif (v3.Kind == 0) then some (.inr (Sum.inl true)) else (at' l y1).bind fun v4 => some (.inr (Sum.inl (v4.Kind == 1)))) else (at' l y1).bind fun v5 => some (.inl v5.Parent)) else some (.inr (Sum.inr ())))
noncomputable def doc_stands (l : (List TNode)) (n : Int) : Option Bool :=
  (iter (doc_stands_b1 l n) (w64 (n - 1))).bind (Sum.elim (fun (q6 : Bool) => some q6) (fun (q7 : Unit) => some false))
noncomputable def doc_declared_c1 (o : TDecl) (p1 : TDecl) : Option Bool :=
  some (o.Prefix == p1.Prefix)
noncomputable def slices_IndexFunc_Decl_b1 (s : (List TDecl)) (f : (TDecl → Option Bool)) (y1 : Int) : Option (Int ⊕ (Int ⊕ Unit)) :=
  (bif (decide (y1 < (s.length : Int))) then (at' s y1).bind fun v2 => (f v2).bind fun v3 => (bif v3 then some (.inr (Sum.inl y1)) else some (.inl (w64 (y1 + 1)))) else some (.inr (Sum.inr ())))
noncomputable def slices_IndexFunc_Decl (s : (List TDecl)) (f : (TDecl → Option Bool)) : Option Int :=
  (iter (slices_IndexFunc_Decl_b1 s f) 0).bind (Sum.elim (fun (q4 : Int) => some q4) (fun (q5 : Unit) => some (-1)))
noncomputable def slices_ContainsFunc_Decl (s : (List TDecl)) (f : (TDecl → Option Bool)) : Option Bool :=
  (slices_IndexFunc_Decl s f).bind fun v1 => some (decide (v1 ≥ 0))
noncomputable def doc_prefix (s : Str) : Option Bool :=
  (bif (s == []) then some true else (name_Is s).bind fun v1 => some v1)
noncomputable def doc_text (s : Str) : Option Bool :=
  (utf_Text s).bind fun v1 => some v1
noncomputable def doc_declared_b1 (l : (List TDecl)) (y1 : Int) : Option (Int ⊕ (Unit ⊕ Unit)) :=
  (bif (decide (y1 < (l.length : Int))) then (at' l y1).bind fun v2 => (sub' l 0 y1).bind fun v3 => (slices_ContainsFunc_Decl v3 (fun x0 => doc_declared_c1 x0 v2)).bind fun v4 => (bif v4 then some (.inr (Sum.inl ())) else (doc_prefix v2.Prefix).bind fun v5 => (bif (!v5) then some (.inr (Sum.inl ())) else (bif (v2.Prefix == [120, 109, 108, 110, 115]) then some (.inr (Sum.inl ())) else (doc_text v2.URI).bind fun v6 => (bif (!v6) then some (.inr (Sum.inl ())) else (bif (v2.URI == []) then (bif (!(v2.Prefix == [])) then some (.inr (Sum.inl ())) else (bif (!((v2.Prefix == [120, 109, 108]) == (v2.URI == [104, 116, 116, 112, 58, 47, 47, 119, 119, 119, 46, 119, 51, 46, 111, 114, 103, 47, 88, 77, 76, 47, 49, 57, 57, 56, 47, 110, 97, 109, 101, 115, 112, 97, 99, 101]))) then some (.inr (Sum.inl ())) else (bif (v2.URI == [104, 116, 116, 112, 58, 47, 47, 119, 119, 119, 46, 119, 51, 46, 111, 114, 103, 47, 50, 48, 48, 48, 47, 120, 109, 108, 110, 115, 47]) then some (.inr (Sum.inl ())) else some (.inl (w64 (y1 + 1)))))) else (bif (!((v2.Prefix == [120, 109, 108]) == (v2.URI == [104, 116, 116, 112, 58, 47, 47, 119, 119, 119, 46, 119, 51, 46, 111, 114, 103, 47, 88, 77, 76, 47, 49, 57, 57, 56, 47, 110, 97, 109, 101, 115, 112, 97, 99, 101]))) then some (.inr (Sum.inl ())) else (bif (v2.URI == [104, 116, 116, 112, 58, 47, 47, 119, 119, 119, 46, 119, 51, 46, 111, 114, 103, 47, 50, 48, 48, 48, 47, 120, 109, 108, 110, 115, 47]) then some (.inr (Sum.inl ())) else some (.inl (w64 (y1 + 1)))))))))) else some (.inr (Sum.inr ())))
noncomputable def doc_declared (l : (List TDecl)) : Option Bool :=
  (iter (doc_declared_b1 l) 0).bind (Sum.elim (fun (q7 : Unit) => some false) (fun (q8 : Unit) => some true))
noncomputable def doc_means_b2 (p : Str) (v2 : TNode) (y3 : Int) : Option (Int ⊕ (Str ⊕ Unit)) :=
  (bif (decide (y3 < (v2.Decls.length : Int))) then (at' v2.Decls y3).bind fun v4 => (bif (v4.Prefix == p) then some (.inr (Sum.inl v4.URI)) else some (.inl (w64 (y3 + 1)))) else some (.inr (Sum.inr ())))
noncomputable def doc_means_b1 (l : (List TNode)) (p : Str) (y1 : Int) : Option (Int ⊕ (Str ⊕ Unit)) :=
  (bif (decide (y1 > 0)) then (at' l y1).bind fun v2 => (iter (doc_means_b2 p v2) 0).bind (Sum.elim (fun (q5 : Str) => some (.inr (Sum.inl q5))) (fun (q6 : Unit) => (at' l y1).bind fun v7 => some (.inl v7.Parent))) else some (.inr (Sum.inr ())))
noncomputable def doc_means (l : (List TNode)) (n : Int) (p : Str) : Option (Str × Bool) :=
  (bif (p == [120, 109, 108]) then some ([104, 116, 116, 112, 58, 47, 47, 119, 119, 119, 46, 119, 51, 46, 111, 114, 103, 47, 88, 77, 76, 47, 49, 57, 57, 56, 47, 110, 97, 109, 101, 115, 112, 97, 99, 101], true) else (iter (doc_means_b1 l p) n).bind (Sum.elim (fun (q8 : Str) => some (q8, true)) (fun (q9 : Unit) => some ([], (p == [])))))
noncomputable def doc_named_c1 (o : TAttr) (p1 : TAttr) : Option Bool :=
  (bif (o.Local == p1.Local) then some (o.URI == p1.URI) else some false)
noncomputable def slices_IndexFunc_Attr_b1 (s : (List TAttr)) (f : (TAttr → Option Bool)) (y1 : Int) : Option (Int ⊕ (Int ⊕ Unit)) :=
  (bif (decide (y1 < (s.length : Int))) then (at' s y1).bind fun v2 => (f v2).bind fun v3 => (bif v3 then some (.inr (Sum.inl y1)) else some (.inl (w64 (y1 + 1)))) else some (.inr (Sum.inr ())))
noncomputable def slices_IndexFunc_Attr (s : (List TAttr)) (f : (TAttr → Option Bool)) : Option Int :=
  (iter (slices_IndexFunc_Attr_b1 s f) 0).bind (Sum.elim (fun (q4 : Int) => some q4) (fun (q5 : Unit) => some (-1)))
noncomputable def slices_ContainsFunc_Attr (s : (List TAttr)) (f : (TAttr → Option Bool)) : Option Bool :=
  (slices_IndexFunc_Attr s f).bind fun v1 => some (decide (v1 ≥ 0))
noncomputable def doc_named_b1 (l : (List TNode)) (n : Int) (v1 : TNode) (y6 : Int) : Option (Int ⊕ (Unit ⊕ Unit)) :=
  (bif (decide (y6 < (v1.Attrs.length : Int))) then (at' v1.Attrs y6).bind fun v7 => (doc_means l n v7.Prefix).bind fun v8 => (bif (v7.Prefix == []) then (sub' v1.Attrs 0 y6).bind fun v9 => (slices_ContainsFunc_Attr v9 (fun x0 => doc_named_c1 x0 v7)).bind fun v10 => (bif v10 then some (.inr (Sum.inl ())) else (bif (!v8.2) then some (.inr (Sum.inl ())) else (bif (!([] == v7.URI)) then some (.inr (Sum.inl ())) else (name_Is v7.Local).bind fun v11 => (bif (!v11) then some (.inr (Sum.inl ())) else (doc_prefix v7.Prefix).bind fun v12 => (bif (!v12) then some (.inr (Sum.inl ())) else (bif (v7.Prefix == [120, 109, 108, 110, 115]) then some (.inr (Sum.inl ())) else (bif (v7.Prefix == []) then (bif (v7.Local == [120, 109, 108, 110, 115]) then some (.inr (Sum.inl ())) else (doc_text v7.Value).bind fun v13 => (bif (!v13) then some (.inr (Sum.inl ())) else some (.inl (w64 (y6 + 1))))) else (doc_text v7.Value).bind fun v14 => (bif (!v14) then some (.inr (Sum.inl ())) else some (.inl (w64 (y6 + 1))))))))))) else (sub' v1.Attrs 0 y6).bind fun v15 => (slices_ContainsFunc_Attr v15 (fun x0 => doc_named_c1 x0 v7)).bind fun v16 => (bif v16 then some (.inr (Sum.inl ())) else (bif (!v8.2) then some (.inr (Sum.inl ())) else (bif (!(v8.1 == v7.URI)) then some (.inr (Sum.inl ())) else (name_Is v7.Local).bind fun v17 => (bif (!v17) then some (.inr (Sum.inl ())) else (doc_prefix v7.Prefix).bind fun v18 => (bif (!v18) then some (.inr (Sum.inl ())) else (bif (v7.Prefix == [120, 109, 108, 110, 115]) then some (.inr (Sum.inl ())) else (bif (v7.Prefix == []) then (bif (v7.Local == [120, 109, 108, 110, 115]) then some (.inr (Sum.inl ())) else (doc_text v7.Value).bind fun v19 => (bif (!v19) then some (.inr (Sum.inl ())) else some (.inl (w64 (y6 + 1))))) else (doc_text v7.Value).bind fun v20 => (bif (!v20) then some (.inr (Sum.inl ())) else some (.inl (w64 (y6 + 1)))))))))))) else some (.inr (Sum.inr ())))
noncomputable def doc_named (l : (List TNode)) (n : Int) : Option Bool :=
  (at' l n).bind fun v1 => (doc_means l n v1.Prefix).bind fun v2 => ((bif (!v2.2) then some true else (bif (!(v2.1 == v1.URI)) then some true else (name_Is v1.Local).bind fun v3 => (bif (!v3) then some true else (doc_prefix v1.Prefix).bind fun v4 => (bif (!v4) then some true else some (v1.Prefix == [120, 109, 108, 110, 115]))))) : Option (Bool)).bind (fun (q5 : Bool) => (bif q5 then some false else (iter (doc_named_b1 l n v1) 0).bind (Sum.elim (fun (q21 : Unit) => some false) (fun (q22 : Unit) => some true))))
noncomputable def stringslite_HasSuffix (s : Str) (suffix : Str) : Option Bool :=
  (bif (decide ((s.length : Int) ≥ (suffix.length : Int))) then (sub' s (w64 ((s.length : Int) - (suffix.length : Int))) (s.length : Int)).bind fun v1 => some (v1 == suffix) else some false)
noncomputable def strings_HasSuffix (s : Str) (suffix : Str) : Option Bool :=
  (stringslite_HasSuffix s suffix).bind fun v1 => some v1
noncomputable def doc_formed (l : (List TNode)) (n : Int) (last : Int) : Option Bool :=
  (at' l n).bind fun v1 => (bif (v1.Kind == 1) then (bif (v1.Text == []) then (doc_declared v1.Decls).bind fun v2 => (bif v2 then (doc_named l n).bind fun v3 => some v3 else some false) else some false) else (bif (v1.Kind == 2) then (doc_bare v1).bind fun v4 => (bif v4 then (bif (v1.Local == []) then (bif (!(v1.Text == [])) then (doc_text v1.Text).bind fun v5 => (bif v5 then (bif (decide (last < 0)) then some true else (at' l last).bind fun v6 => some (v6.Kind != 2)) else some false) else some false) else some false) else some false) else (bif (v1.Kind == 3) then (doc_bare v1).bind fun v7 => (bif v7 then (bif (v1.Local == []) then (doc_text v1.Text).bind fun v8 => (bif v8 then (strings_Contains v1.Text [45, 45]).bind fun v9 => (bif (!v9) then (strings_HasSuffix v1.Text [45]).bind fun v10 => some (!v10) else some false) else some false) else some false) else some false) else (bif (v1.Kind == 4) then ((bif (!(v1.Text == [])) then (at' v1.Text 0).bind fun v11 => (name_Blank v11).bind fun v12 => some v12 else some false) : Option (Bool)).bind (fun (q13 : Bool) => (doc_bare v1).bind fun v14 => (bif v14 then (name_Is v1.Local).bind fun v15 => (bif v15 then none else some false) else some false)) else some false))))
noncomputable def doc_under (x : TNode) : Option Bool :=
  (bif (x.Parent != 0) then some true else some (x.Kind != 2))
noncomputable def doc_check_b1 (v8 : (List Int)) (y9 : Int × (List Int)) : Option ((Int × (List Int)) ⊕ (List Int)) :=
  (bif (decide (y9.1 < (v8.length : Int))) then (at' y9.2 y9.1).bind fun v10 => (put y9.2 y9.1 (-1)).bind fun v11 => some (.inl ((w64 (y9.1 + 1)), v11)) else some (.inr y9.2))
noncomputable def doc_check_b2 (l : (List TNode)) (y13 : Int × Int × (List Int)) : Option ((Int × Int × (List Int)) ⊕ (Unit ⊕ Int)) :=
  (bif (decide (y13.2.1 < (l.length : Int))) then ((doc_stands l y13.2.1).bind fun v14 => (bif (!v14) then some true else (at' l y13.2.1).bind fun v15 => (at' y13.2.2 v15.Parent).bind fun v16 => (doc_formed l y13.2.1 v16).bind fun v17 => (bif (!v17) then some true else (at' l y13.2.1).bind fun v18 => (doc_under v18).bind fun v19 => some (!v19))) : Option (Bool)).bind (fun (q20 : Bool) => (bif q20 then some (.inr (Sum.inl ())) else (at' l y13.2.1).bind fun v21 => (bif (v21.Parent == 0) then (at' l y13.2.1).bind fun v22 => (bif (v22.Kind == 1) then (bif (decide (y13.1 > 0)) then some (.inr (Sum.inl ())) else (at' l y13.2.1).bind fun v23 => (at' y13.2.2 v23.Parent).bind fun v24 => (put y13.2.2 v23.Parent y13.2.1).bind fun v25 => some (.inl (y13.2.1, (w64 (y13.2.1 + 1)), v25))) else (at' l y13.2.1).bind fun v26 => (at' y13.2.2 v26.Parent).bind fun v27 => (put y13.2.2 v26.Parent y13.2.1).bind fun v28 => some (.inl (y13.1, (w64 (y13.2.1 + 1)), v28))) else (at' l y13.2.1).bind fun v29 => (at' y13.2.2 v29.Parent).bind fun v30 => (put y13.2.2 v29.Parent y13.2.1).bind fun v31 => some (.inl (y13.1, (w64 (y13.2.1 + 1)), v31))))) else some (.inr (Sum.inr y13.1)))
noncomputable def doc_check (l : (List TNode)) : Option (Int × Bool) :=
  ((bif ((l.length : Int) == 0) then some true else (at' l 0).bind fun v1 => (bif (v1.Kind != 0) then some true else (at' l 0).bind fun v2 => (bif (v2.Parent != (-1)) then some true else (at' l 0).bind fun v3 => (doc_bare v3).bind fun v4 => (bif (!v4) then some true else (at' l 0).bind fun v5 => (bif (!(v5.Local == [])) then some true else (at' l 0).bind fun v6 => some (!(v6.Text == []))))))) : Option (Bool)).bind (fun (q7 : Bool) => (bif q7 then some (0, false) else (mk 8 (l.length : Int) 0).bind fun v8 => (iter (doc_check_b1 v8) (0, v8)).bind (fun (q12 : (List Int)) => (iter (doc_check_b2 l) (0, 1, q12)).bind (Sum.elim (fun (q32 : Unit) => some (0, false)) (fun (q33 : Int) => some (q33, (decide (q33 > 0))))))))
noncomputable def doc_within_b1 (l : (List TNode)) (y2 : Int × (List Int)) : Option ((Int × (List Int)) ⊕ (Unit ⊕ Unit)) :=
  (bif (decide (y2.1 < (l.length : Int))) then (at' l y2.1).bind fun v3 => (bif (decide (y2.1 > 0)) then (at' y2.2 v3.Parent).bind fun v4 => (at' y2.2 y2.1).bind fun v5 => (put y2.2 y2.1 (w64 (v4 + 1))).bind fun v6 => (at' v6 y2.1).bind fun v7 => (bif (decide (v7 > 64)) then some (.inr (Sum.inl ())) else (bif (decide ((w64 ((v3.Decls.length : Int) + (v3.Attrs.length : Int))) > 64)) then some (.inr (Sum.inl ())) else some (.inl ((w64 (y2.1 + 1)), v6)))) else (at' y2.2 y2.1).bind fun v8 => (bif (decide (v8 > 64)) then some (.inr (Sum.inl ())) else (bif (decide ((w64 ((v3.Decls.length : Int) + (v3.Attrs.length : Int))) > 64)) then some (.inr (Sum.inl ())) else some (.inl ((w64 (y2.1 + 1)), y2.2))))) else some (.inr (Sum.inr ())))
noncomputable def doc_within (l : (List TNode)) : Option Bool :=
  (bif (decide ((l.length : Int) > 4000)) then some false else (mk 8 (l.length : Int) 0).bind fun v1 => (iter (doc_within_b1 l) (0, v1)).bind (Sum.elim (fun (q9 : Unit) => some false) (fun (q10 : Unit) => some true)))
noncomputable def slices_Clone_Decl (s : (List TDecl)) : Option (List TDecl) :=
  (app 32 [] s).bind fun v2 => some v2
noncomputable def slices_Clone_Attr (s : (List TAttr)) : Option (List TAttr) :=
  (app 64 [] s).bind fun v2 => some v2
noncomputable def doc_clone (x : TNode) : Option (Int × Int × Str × Str × Str × Str × (List TDecl) × (List TAttr)) :=
  (slices_Clone_Decl x.Decls).bind fun v1 => (slices_Clone_Attr x.Attrs).bind fun v2 => some (x.Kind, x.Parent, x.Prefix, x.Local, x.URI, x.Text, v1, v2)
noncomputable def doc_Of_b1 (l : (List TNode)) (y4 : Int × (List TNode)) : Option ((Int × (List TNode)) ⊕ (List TNode)) :=
  (bif (decide (y4.1 < (l.length : Int))) then (at' l y4.1).bind fun v5 => (doc_clone v5).bind fun v6 => (app 128 y4.2 [(TNode.mk v6.1 v6.2.1 v6.2.2.1 v6.2.2.2.1 v6.2.2.2.2.1 v6.2.2.2.2.2.1 v6.2.2.2.2.2.2.1 v6.2.2.2.2.2.2.2)]).bind fun v7 => some (.inl ((w64 (y4.1 + 1)), v7)) else some (.inr y4.2))
noncomputable def doc_Of_b2 (l : (List TNode)) (y9 : Int × (List Int)) : Option ((Int × (List Int)) ⊕ (List Int)) :=
  (bif (decide (y9.1 ≥ 0)) then (at' y9.2 y9.1).bind fun v10 => (at' y9.2 y9.1).bind fun v11 => (put y9.2 y9.1 (mx v10 (w64 (y9.1 + 1)))).bind fun v12 => (at' l y9.1).bind fun v13 => (bif (decide (v13.Parent ≥ 0)) then (at' v12 v13.Parent).bind fun v14 => (at' v12 y9.1).bind fun v15 => (at' v12 v13.Parent).bind fun v16 => (put v12 v13.Parent (mx v14 v15)).bind fun v17 => some (.inl ((w64 (y9.1 - 1)), v17)) else some (.inl ((w64 (y9.1 - 1)), v12))) else some (.inr y9.2))
noncomputable def doc_Of (l : (List TNode)) : Option ((Option TDoc) × Int) :=
  (doc_check l).bind fun v1 => (bif (!v1.2) then some (none, 2) else (doc_within l).bind fun v2 => (bif (!v2) then some (none, 3) else (mk 8 (l.length : Int) 0).bind fun v3 => (iter (doc_Of_b1 l) (0, [])).bind (fun (q8 : (List TNode)) => (iter (doc_Of_b2 l) ((w64 ((l.length : Int) - 1)), v3)).bind (fun (q18 : (List Int)) => some ((some (TDoc.mk q8 q18 v1.1)), 0)))))
noncomputable def parse_reader_blanks_s23_b1 (u1 : Str) (y1 : Int) : Option (Int ⊕ Int) :=
  (bif (decide (y1 < (u1.length : Int))) then (at' u1 y1).bind fun v2 => (name_Blank v2).bind fun v3 => (bif v3 then some (.inl (w64 (y1 + 1))) else some (.inr y1)) else some (.inr y1))
noncomputable def parse_reader_blanks_s23 (u1 : Str) (u2 : Bool) (u3 : Bool) (u4 : (List TNode)) (u5 : (List TOpen_)) (u6 : (List UInt8)) : Option (Bool × Str) :=
  (iter (parse_reader_blanks_s23_b1 u1) 0).bind (fun (q4 : Int) => (sub' u1 q4 (u1.length : Int)).bind fun v5 => some ((decide (q4 > 0)), v5))
noncomputable def parse_reader_declaration_s22 (u1 : Str) (u2 : Bool) (u3 : Bool) (u4 : (List TNode)) (u5 : (List TOpen_)) (u6 : (List UInt8)) : Option (Bool × Str) :=
  ((bif (decide ((u1.length : Int) < 6)) then some true else (sub' u1 0 5).bind fun v1 => (bif (!(v1 == [60, 63, 120, 109, 108])) then some true else (at' u1 5).bind fun v2 => (name_Blank v2).bind fun v3 => some (!v3))) : Option (Bool)).bind (fun (q4 : Bool) => (bif q4 then some (true, u1) else (sub' u1 5 (u1.length : Int)).bind fun v5 => (parse_reader_blanks_s23 v5 u2 u3 u4 u5 u6).bind fun v6 => (strings_HasPrefix v6.2 [118, 101, 114, 115, 105, 111, 110]).bind fun v7 => (bif (!v7) then some (false, v6.2) else none)))
noncomputable def parse_reader_take_s25 (u1 : Str) (u2 : Str) (u3 : Bool) (u4 : Bool) (u5 : (List TNode)) (u6 : (List TOpen_)) (u7 : (List UInt8)) : Option (Bool × Str) :=
  (strings_CutPrefix u2 u1).bind fun v1 => (bif v1.2 then some (v1.2, v1.1) else some (v1.2, u2))
noncomputable def parse_reader_until_s26 (u1 : Str) (u2 : Str) (u3 : Bool) (u4 : Bool) (u5 : (List TNode)) (u6 : (List TOpen_)) (u7 : (List UInt8)) : Option (Str × Bool × Str) :=
  (strings_Cut u2 u1).bind fun v1 => (bif v1.2.2 then some (v1.1, v1.2.2, v1.2.1) else some (v1.1, v1.2.2, u2))
noncomputable def strings_Builder_Len_s29 (u1 : Str) (u2 : Bool) (u3 : Bool) (u4 : (List TNode)) (u5 : (List TOpen_)) (u6 : (List UInt8)) : Option Int :=
  some (u6.length : Int)
noncomputable def parse_reader_parent_s30 (u1 : Str) (u2 : Bool) (u3 : Bool) (u4 : (List TNode)) (u5 : (List TOpen_)) (u6 : (List UInt8)) : Option Int :=
  (bif ((u5.length : Int) == 0) then some 0 else (at' u5 (w64 ((u5.length : Int) - 1))).bind fun v1 => some v1.n)
noncomputable def strings_Builder_String_s31 (u1 : Str) (u2 : Bool) (u3 : Bool) (u4 : (List TNode)) (u5 : (List TOpen_)) (u6 : (List UInt8)) : Option Str :=
  (unsf u6).bind fun v1 => some v1
noncomputable def strings_Builder_Reset_s32 (u1 : Str) (u2 : Bool) (u3 : Bool) (u4 : (List TNode)) (u5 : (List TOpen_)) : Option Unit :=
  some ()
noncomputable def parse_reader_flush_s28 (u1 : Str) (u2 : Bool) (u3 : Bool) (u4 : (List TNode)) (u5 : (List TOpen_)) (u6 : (List UInt8)) : Option (Bool × (List TNode) × (List UInt8)) :=
  (strings_Builder_Len_s29 u1 u2 u3 u4 u5 u6).bind fun v1 => (bif (decide (v1 > 0)) then ((parse_reader_parent_s30 u1 u2 u3 u4 u5 u6).bind fun v2 => (strings_Builder_String_s31 u1 u2 u3 u4 u5 u6).bind fun v3 => (app 128 u4 [(TNode.mk 2 v2 [] [] [] v3 [] [])]).bind fun v4 => some v4 : Option ((List TNode))).bind (fun (q5 : (List TNode)) => (strings_Builder_Reset_s32 u1 u2 u3 q5 u5).bind fun v6 => some (true, q5, [])) else some (u2, u4, u6))
noncomputable def parse_reader_put_s27 (u1 : Int) (u2 : Int) (u3 : Str) (u4 : Str) (u5 : Str) (u6 : Str) (u7 : Str) (u8 : Bool) (u9 : Bool) (u10 : (List TNode)) (u11 : (List TOpen_)) (u12 : (List UInt8)) : Option (Bool × (List TNode) × (List UInt8)) :=
  (parse_reader_flush_s28 u7 u8 u9 u10 u11 u12).bind fun v1 => (parse_reader_parent_s30 u7 v1.1 u9 v1.2.1 u11 v1.2.2).bind fun v2 => (app 128 v1.2.1 [(TNode.mk u1 v2 u3 u4 u5 u6 [] [])]).bind fun v3 => some (v1.1, v3, v1.2.2)
noncomputable def strings_Builder_copyCheck_s34 (u1 : Str) (u2 : Bool) (u3 : Bool) (u4 : (List TNode)) (u5 : (List TOpen_)) (u6 : (List UInt8)) : Option Unit :=
  (bif u2 then some () else some ())
noncomputable def strings_Builder_WriteString_s33 (u1 : Str) (u2 : Str) (u3 : Bool) (u4 : Bool) (u5 : (List TNode)) (u6 : (List TOpen_)) (u7 : (List UInt8)) : Option (Int × (List UInt8)) :=
  (strings_Builder_copyCheck_s34 u2 u3 u4 u5 u6 u7).bind fun v1 => (app 1 u7 u1).bind fun v2 => some ((u1.length : Int), v2)
noncomputable def parse_reader_word_s36_b1 (u1 : Str) (y1 : Int × Nat) : Option ((Int × Nat) ⊕ Int) :=
  (bif (decide (y1.2 < u1.length)) then (bif (((dec u1 y1.2).1 : Int) != 58) then (name_Stands ((dec u1 y1.2).1 : Int)).bind fun v2 => (bif (!v2) then some (.inr y1.1) else some (.inl ((w64 ((y1.2 : Int) + ((enc ((dec u1 y1.2).1 : Int)).length : Int))), (y1.2 + (dec u1 y1.2).2)))) else some (.inl ((w64 ((y1.2 : Int) + ((enc ((dec u1 y1.2).1 : Int)).length : Int))), (y1.2 + (dec u1 y1.2).2)))) else some (.inr y1.1))
noncomputable def parse_reader_word_s36 (u1 : Str) (u2 : Bool) (u3 : Bool) (u4 : (List TNode)) (u5 : (List TOpen_)) (u6 : (List UInt8)) : Option (Str × Str) :=
  (iter (parse_reader_word_s36_b1 u1) (0, 0)).bind (fun (q3 : Int) => (sub' u1 0 q3).bind fun v4 => (sub' u1 q3 (u1.length : Int)).bind fun v5 => some (v4, v5))
noncomputable def parse_reader_quoted_s40 (u1 : Str) (u2 : Bool) (u3 : Bool) (u4 : (List TNode)) (u5 : (List TOpen_)) (u6 : (List UInt8)) : Option (Str × Bool × Str) :=
  (parse_reader_blanks_s23 u1 u2 u3 u4 u5 u6).bind fun v1 => (parse_reader_take_s25 [61] v1.2 u2 u3 u4 u5 u6).bind fun v2 => (bif (!v2.1) then some ([], false, v2.2) else (parse_reader_blanks_s23 v2.2 u2 u3 u4 u5 u6).bind fun v3 => ((bif (v3.2 == []) then some true else (sub' v3.2 0 1).bind fun v4 => (strings_Contains [39, 34] v4).bind fun v5 => some (!v5)) : Option (Bool)).bind (fun (q6 : Bool) => (bif q6 then some ([], false, v3.2) else (sub' v3.2 0 1).bind fun v7 => (sub' v3.2 1 (v3.2.length : Int)).bind fun v8 => (parse_reader_until_s26 v7 v8 u2 u3 u4 u5 u6).bind fun v9 => some (v9.1, v9.2.1, v9.2.2))))
noncomputable def parse_reader_mark_s39 (u1 : Str) (u2 : Bool) (u3 : Bool) (u4 : (List TNode)) (u5 : (List TOpen_)) (u6 : (List UInt8)) (u7 : Int) (u8 : Int) (u9 : Str) (u10 : Str) (u11 : Str) (u12 : Str) (u13 : (List TDecl)) (u14 : (List TAttr)) : Option (Bool × Str × (List TDecl) × (List TAttr)) :=
  (parse_reader_word_s36 u1 u2 u3 u4 u5 u6).bind fun v1 => (name_Split v1.1).bind fun v2 => (parse_reader_quoted_s40 v1.2 u2 u3 u4 u5 u6).bind fun v3 => (chars_Value v3.1).bind fun v4 => ((bif (!v2.2.2) then some true else (bif (!v3.2.1) then some true else some (!v4.2))) : Option (Bool)).bind (fun (q5 : Bool) => (bif q5 then some (false, v3.2.2, u13, u14) else (bif (v2.1 == [120, 109, 108, 110, 115]) then (app 32 u13 [(TDecl.mk v2.2.1 v4.1)]).bind fun v6 => some (true, v3.2.2, v6, u14) else ((bif (v2.1 == []) then some (v2.2.1 == [120, 109, 108, 110, 115]) else some false) : Option (Bool)).bind (fun (q7 : Bool) => (bif q7 then (app 32 u13 [(TDecl.mk [] v4.1)]).bind fun v8 => some (true, v3.2.2, v8, u14) else (app 64 u14 [(TAttr.mk v2.1 v2.2.1 [] v4.1)]).bind fun v9 => some (true, v3.2.2, u13, v9))))))
noncomputable def parse_reader_means_s42_b2 (u1 : Str) (v3 : TNode) (y4 : Int) : Option (Int ⊕ (Str ⊕ Unit)) :=
  (bif (decide (y4 < (v3.Decls.length : Int))) then (at' v3.Decls y4).bind fun v5 => (bif (v5.Prefix == u1) then some (.inr (Sum.inl v5.URI)) else some (.inl (w64 (y4 + 1)))) else some (.inr (Sum.inr ())))
noncomputable def parse_reader_means_s42_b3 (u1 : Str) (u8 : (List TDecl)) (y8 : Int) : Option (Int ⊕ (Str ⊕ Unit)) :=
  (bif (decide (y8 < (u8.length : Int))) then (at' u8 y8).bind fun v9 => (bif (v9.Prefix == u1) then some (.inr (Sum.inl v9.URI)) else some (.inl (w64 (y8 + 1)))) else some (.inr (Sum.inr ())))
noncomputable def parse_reader_means_s42_b1 (u1 : Str) (u5 : (List TNode)) (u6 : (List TOpen_)) (u8 : (List TDecl)) (y1 : Int) : Option (Int ⊕ (Str ⊕ Unit)) :=
  (bif (decide (y1 ≥ 0)) then (bif (decide (y1 < (u6.length : Int))) then (at' u6 y1).bind fun v2 => (at' u5 v2.n).bind fun v3 => (iter (parse_reader_means_s42_b2 u1 v3) 0).bind (Sum.elim (fun (q6 : Str) => some (.inr (Sum.inl q6))) (fun (q7 : Unit) => some (.inl (w64 (y1 - 1))))) else (iter (parse_reader_means_s42_b3 u1 u8) 0).bind (Sum.elim (fun (q10 : Str) => some (.inr (Sum.inl q10))) (fun (q11 : Unit) => some (.inl (w64 (y1 - 1)))))) else some (.inr (Sum.inr ())))
noncomputable def parse_reader_means_s42 (u1 : Str) (u2 : Str) (u3 : Bool) (u4 : Bool) (u5 : (List TNode)) (u6 : (List TOpen_)) (u7 : (List UInt8)) (u8 : (List TDecl)) : Option Str :=
  (bif (u1 == [120, 109, 108]) then some [104, 116, 116, 112, 58, 47, 47, 119, 119, 119, 46, 119, 51, 46, 111, 114, 103, 47, 88, 77, 76, 47, 49, 57, 57, 56, 47, 110, 97, 109, 101, 115, 112, 97, 99, 101] else (iter (parse_reader_means_s42_b1 u1 u5 u6 u8) (u6.length : Int)).bind (Sum.elim (fun (q12 : Str) => some q12) (fun (q13 : Unit) => some [])))
noncomputable def parse_reader_put_s45 (u1 : Int) (u2 : Int) (u3 : Str) (u4 : Str) (u5 : Str) (u6 : Str) (u7 : Str) (u8 : Bool) (u9 : Bool) (u10 : (List TNode)) (u11 : (List TOpen_)) (u12 : (List UInt8)) (u13 : (List TDecl)) (u14 : (List TAttr)) : Option (Bool × (List TNode) × (List UInt8)) :=
  (parse_reader_flush_s28 u7 u8 u9 u10 u11 u12).bind fun v1 => (parse_reader_parent_s30 u7 v1.1 u9 v1.2.1 u11 v1.2.2).bind fun v2 => (app 128 v1.2.1 [(TNode.mk u1 v2 u3 u4 u5 u6 u13 u14)]).bind fun v3 => some (v1.1, v3, v1.2.2)
noncomputable def parse_reader_enter_s44_b1 (u9 : Str) (u10 : Bool) (u11 : Bool) (u12 : (List TNode)) (u13 : (List TOpen_)) (u14 : (List UInt8)) (u15 : (List TDecl)) (u16 : (List TAttr)) (y2 : Int × (List TAttr)) : Option ((Int × (List TAttr)) ⊕ (List TAttr)) :=
  (bif (decide (y2.1 < (u16.length : Int))) then (at' y2.2 y2.1).bind fun v3 => (bif (!(v3.Prefix == [])) then (parse_reader_means_s42 v3.Prefix u9 u10 u11 u12 u13 u14 u15).bind fun v4 => (at' y2.2 y2.1).bind fun v5 => (put y2.2 y2.1 (TAttr.mk v5.Prefix v5.Local v4 v5.Value)).bind fun v6 => some (.inl ((w64 (y2.1 + 1)), v6)) else some (.inl ((w64 (y2.1 + 1)), y2.2))) else some (.inr y2.2))
noncomputable def parse_reader_enter_s44 (u1 : Int) (u2 : Int) (u3 : Str) (u4 : Str) (u5 : Str) (u6 : Str) (u7 : Str) (u8 : Bool) (u9 : Str) (u10 : Bool) (u11 : Bool) (u12 : (List TNode)) (u13 : (List TOpen_)) (u14 : (List UInt8)) (u15 : (List TDecl)) (u16 : (List TAttr)) : Option (Bool × (List TNode) × (List TOpen_) × (List UInt8)) :=
  (parse_reader_means_s42 u3 u9 u10 u11 u12 u13 u14 u15).bind fun v1 => (iter (parse_reader_enter_s44_b1 u9 u10 u11 u12 u13 u14 u15 u16) (0, u16)).bind (fun (q7 : (List TAttr)) => (parse_reader_put_s45 u1 u2 u3 u4 v1 u6 u9 u10 u11 u12 u13 u14 u15 q7).bind fun v8 => (bif (!u8) then (app 24 u13 [(TOpen_.mk (w64 ((v8.2.1.length : Int) - 1)) u7)]).bind fun v9 => some (v8.1, v8.2.1, v9, v8.2.2) else some (v8.1, v8.2.1, u13, v8.2.2)))
noncomputable def parse_reader_start_s35_b1 (u2 : Bool) (u3 : Bool) (u4 : (List TNode)) (u5 : (List TOpen_)) (u6 : (List UInt8)) (v1 : Str × Str) (v2 : Str × Str × Bool) (y3 : Str × (List TDecl) × (List TAttr)) : Option ((Str × (List TDecl) × (List TAttr)) ⊕ (Bool × Str × Bool × (List TNode) × (List TOpen_) × (List UInt8))) :=
  (parse_reader_blanks_s23 y3.1 u2 u3 u4 u5 u6).bind fun v4 => (parse_reader_take_s25 [62] v4.2 u2 u3 u4 u5 u6).bind fun v5 => (bif (!v5.1) then (parse_reader_take_s25 [47, 62] v5.2 u2 u3 u4 u5 u6).bind fun v6 => (bif v5.1 then (parse_reader_enter_s44 1 0 v2.1 v2.2.1 [] [] v1.1 v6.1 v6.2 u2 u3 u4 u5 u6 y3.2.1 y3.2.2).bind fun v7 => some (.inr (true, v6.2, v7.1, v7.2.1, v7.2.2.1, v7.2.2.2)) else (bif v6.1 then (parse_reader_enter_s44 1 0 v2.1 v2.2.1 [] [] v1.1 v6.1 v6.2 u2 u3 u4 u5 u6 y3.2.1 y3.2.2).bind fun v8 => some (.inr (true, v6.2, v8.1, v8.2.1, v8.2.2.1, v8.2.2.2)) else (bif (!v4.1) then some (.inr (false, v6.2, u2, u4, u5, u6)) else (parse_reader_mark_s39 v6.2 u2 u3 u4 u5 u6 1 0 v2.1 v2.2.1 [] [] y3.2.1 y3.2.2).bind fun v9 => (bif (!v9.1) then some (.inr (false, v9.2.1, u2, u4, u5, u6)) else some (.inl (v9.2.1, v9.2.2.1, v9.2.2.2)))))) else (bif v5.1 then (parse_reader_enter_s44 1 0 v2.1 v2.2.1 [] [] v1.1 false v5.2 u2 u3 u4 u5 u6 y3.2.1 y3.2.2).bind fun v10 => some (.inr (true, v5.2, v10.1, v10.2.1, v10.2.2.1, v10.2.2.2)) else (bif (!v4.1) then some (.inr (false, v5.2, u2, u4, u5, u6)) else (parse_reader_mark_s39 v5.2 u2 u3 u4 u5 u6 1 0 v2.1 v2.2.1 [] [] y3.2.1 y3.2.2).bind fun v11 => (bif (!v11.1) then some (.inr (false, v11.2.1, u2, u4, u5, u6)) else some (.inl (v11.2.1, v11.2.2.1, v11.2.2.2))))))
noncomputable def parse_reader_start_s35 (u1 : Str) (u2 : Bool) (u3 : Bool) (u4 : (List TNode)) (u5 : (List TOpen_)) (u6 : (List UInt8)) : Option (Bool × Str × Bool × (List TNode) × (List TOpen_) × (List UInt8)) :=
  (parse_reader_word_s36 u1 u2 u3 u4 u5 u6).bind fun v1 => (name_Split v1.1).bind fun v2 => (bif (!v2.2.2) then some (false, v1.2, u2, u4, u5, u6) else (iter (parse_reader_start_s35_b1 u2 u3 u4 u5 u6 v1 v2) (v1.2, [], [])).bind (fun (q12 : Bool × Str × Bool × (List TNode) × (List TOpen_) × (List UInt8)) => some (q12.1, q12.2.1, q12.2.2.1, q12.2.2.2.1, q12.2.2.2.2.1, q12.2.2.2.2.2)))
noncomputable def parse_reader_step_s24 (u1 : Str) (u2 : Bool) (u3 : Bool) (u4 : (List TNode)) (u5 : (List TOpen_)) (u6 : (List UInt8)) : Option (Bool × Str × Bool × (List TNode) × (List TOpen_) × (List UInt8)) :=
  (parse_reader_take_s25 [60, 33, 45, 45] u1 u2 u3 u4 u5 u6).bind fun v1 => (bif v1.1 then (parse_reader_until_s26 [45, 45, 62] v1.2 u2 u3 u4 u5 u6).bind fun v2 => (parse_reader_put_s27 3 0 [] [] [] v2.1 v2.2.2 u2 u3 u4 u5 u6).bind fun v3 => some (v2.2.1, v2.2.2, v3.1, v3.2.1, u5, v3.2.2) else ((bif (decide ((u5.length : Int) > 0)) then (parse_reader_take_s25 [60, 33, 91, 67, 68, 65, 84, 65, 91] v1.2 u2 u3 u4 u5 u6).bind fun v4 => some (v4.1, v4.2) else some (false, v1.2)) : Option ((Bool × Str))).bind (fun (q5 : Bool × Str) => (bif q5.1 then (parse_reader_until_s26 [93, 93, 62] q5.2 u2 u3 u4 u5 u6).bind fun v6 => (strings_Builder_WriteString_s33 v6.1 v6.2.2 u2 u3 u4 u5 u6).bind fun v7 => some (v6.2.1, v6.2.2, false, u4, u5, v7.2) else (parse_reader_take_s25 [60, 63] q5.2 u2 u3 u4 u5 u6).bind fun v8 => (bif v8.1 then none else (parse_reader_take_s25 [60, 47] v8.2 u2 u3 u4 u5 u6).bind fun v9 => (bif v9.1 then none else (parse_reader_take_s25 [60] v9.2 u2 u3 u4 u5 u6).bind fun v10 => (bif v10.1 then (parse_reader_start_s35 v10.2 u2 u3 u4 u5 u6).bind fun v11 => some (v11.1, v11.2.1, v11.2.2.1, v11.2.2.2.1, v11.2.2.2.2.1, v11.2.2.2.2.2) else none))))))
noncomputable def parse_Parse_b1 (y4 : Str × Bool × (List TNode) × (List TOpen_) × (List UInt8)) : Option ((Str × Bool × (List TNode) × (List TOpen_) × (List UInt8)) ⊕ (Unit ⊕ (Str × Bool × (List TNode) × (List TOpen_) × (List UInt8)))) :=
  (bif (!(y4.1 == [])) then (parse_reader_step_s24 y4.1 y4.2.1 false y4.2.2.1 y4.2.2.2.1 y4.2.2.2.2).bind fun v5 => (bif (!v5.1) then some (.inr (Sum.inl ())) else some (.inl (v5.2.1, v5.2.2.1, v5.2.2.2.1, v5.2.2.2.2.1, v5.2.2.2.2.2))) else some (.inr (Sum.inr (y4.1, y4.2.1, y4.2.2.1, y4.2.2.2.1, y4.2.2.2.2))))
noncomputable def parse_Parse (b : (List UInt8)) : Option ((Option TDoc) × Int) :=
  (bif (decide ((b.length : Int) > 65536)) then some (none, 3) else (utf_Text b).bind fun v1 => (bif (!v1) then some (none, 2) else (chars_Lines b).bind fun v2 => (parse_reader_declaration_s22 v2 true false [(TNode.mk 0 (-1) [] [] [] [] [] [])] [] []).bind fun v3 => (bif (!v3.1) then some (none, 2) else (iter (parse_Parse_b1) (v3.2, true, [(TNode.mk 0 (-1) [] [] [] [] [] [])], [], [])).bind (Sum.elim (fun (q6 : Unit) => some (none, 2)) (fun (q7 : Str × Bool × (List TNode) × (List TOpen_) × (List UInt8)) => (bif (decide ((q7.2.2.2.1.length : Int) > 0)) then some (none, 2) else (doc_Of q7.2.2.1).bind fun v8 => some (v8.1, v8.2)))))))
noncomputable def doc_Doc_Len (d : (Option TDoc)) : Option Int :=
  (bif d.isNone then some 0 else (d).bind fun v1 => some (v1.l.length : Int))
noncomputable def doc_Doc_has (d : (Option TDoc)) (n : Int) : Option Bool :=
  (bif (decide (n ≥ 0)) then (doc_Doc_Len d).bind fun v1 => some (decide (n < v1)) else some false)
noncomputable def doc_Doc_Node (d : (Option TDoc)) (n : Int) : Option TNode :=
  (doc_Doc_has d n).bind fun v1 => (bif (!v1) then some (TNode.mk 0 0 [] [] [] [] [] []) else (d).bind fun v2 => (at' v2.l n).bind fun v3 => (doc_clone v3).bind fun v4 => some (TNode.mk v4.1 v4.2.1 v4.2.2.1 v4.2.2.2.1 v4.2.2.2.2.1 v4.2.2.2.2.2.1 v4.2.2.2.2.2.2.1 v4.2.2.2.2.2.2.2))
noncomputable def doc_Doc_Up_b1 (d : (Option TDoc)) (y4 : Int × (List Int)) : Option ((Int × (List Int)) ⊕ (List Int)) :=
  (bif (decide (y4.1 ≥ 0)) then (app 8 y4.2 [y4.1]).bind fun v5 => (d).bind fun v6 => (at' v6.l y4.1).bind fun v7 => some (.inl (v7.Parent, v5)) else some (.inr y4.2))
noncomputable def doc_Doc_Up (d : (Option TDoc)) (n : Int) : Option (List Int) :=
  (doc_Doc_has d n).bind fun v1 => (bif (!v1) then some [] else (d).bind fun v2 => (at' v2.l n).bind fun v3 => (iter (doc_Doc_Up_b1 d) (v3.Parent, [])).bind (fun (q8 : (List Int)) => some q8))
noncomputable def slices_Insert_int (s : (List Int)) (i : Int) (v_ : (List Int)) : Option (List Int) :=
  ins 8 s i v_
noncomputable def slices_insertionSortCmpFunc_Decl_b2 (a : Int) (cmp : (TDecl → TDecl → Option Int)) (y2 : Int × (List TDecl)) : Option ((Int × (List TDecl)) ⊕ (List TDecl)) :=
  ((bif (decide (y2.1 > a)) then (at' y2.2 y2.1).bind fun v3 => (at' y2.2 (w64 (y2.1 - 1))).bind fun v4 => (cmp v3 v4).bind fun v5 => some (decide (v5 < 0)) else some false) : Option (Bool)).bind (fun (q6 : Bool) => (bif q6 then (at' y2.2 (w64 (y2.1 - 1))).bind fun v7 => (at' y2.2 y2.1).bind fun v8 => (at' y2.2 y2.1).bind fun v9 => (put y2.2 y2.1 v7).bind fun v10 => (at' v10 (w64 (y2.1 - 1))).bind fun v11 => (put v10 (w64 (y2.1 - 1)) v8).bind fun v12 => some (.inl ((w64 (y2.1 - 1)), v12)) else some (.inr y2.2)))
noncomputable def slices_insertionSortCmpFunc_Decl_b1 (a : Int) (b : Int) (cmp : (TDecl → TDecl → Option Int)) (y1 : Int × (List TDecl)) : Option ((Int × (List TDecl)) ⊕ (List TDecl)) :=
  (bif (decide (y1.1 < b)) then (iter (slices_insertionSortCmpFunc_Decl_b2 a cmp) (y1.1, y1.2)).bind (fun (q13 : (List TDecl)) => some (.inl ((w64 (y1.1 + 1)), q13))) else some (.inr y1.2))
noncomputable def slices_insertionSortCmpFunc_Decl (data : (List TDecl)) (a : Int) (b : Int) (cmp : (TDecl → TDecl → Option Int)) : Option (List TDecl) :=
  (iter (slices_insertionSortCmpFunc_Decl_b1 a b cmp) ((w64 (a + 1)), data)).bind (fun (q14 : (List TDecl)) => some q14)
noncomputable def slices_swapRangeCmpFunc_Decl_b1 (a : Int) (b : Int) (n : Int) (y1 : Int × (List TDecl)) : Option ((Int × (List TDecl)) ⊕ (List TDecl)) :=
  (bif (decide (y1.1 < n)) then (at' y1.2 (w64 (b + y1.1))).bind fun v2 => (at' y1.2 (w64 (a + y1.1))).bind fun v3 => (at' y1.2 (w64 (a + y1.1))).bind fun v4 => (put y1.2 (w64 (a + y1.1)) v2).bind fun v5 => (at' v5 (w64 (b + y1.1))).bind fun v6 => (put v5 (w64 (b + y1.1)) v3).bind fun v7 => some (.inl ((w64 (y1.1 + 1)), v7)) else some (.inr y1.2))
noncomputable def slices_swapRangeCmpFunc_Decl (data : (List TDecl)) (a : Int) (b : Int) (n : Int) (cmp : (TDecl → TDecl → Option Int)) : Option (List TDecl) :=
  (iter (slices_swapRangeCmpFunc_Decl_b1 a b n) (0, data)).bind (fun (q8 : (List TDecl)) => some q8)
noncomputable def slices_rotateCmpFunc_Decl_b1 (m : Int) (cmp : (TDecl → TDecl → Option Int)) (y1 : Int × Int × (List TDecl)) : Option ((Int × Int × (List TDecl)) ⊕ (Int × (List TDecl))) :=
  (bif (y1.1 != y1.2.1) then (bif (decide (y1.1 > y1.2.1)) then (slices_swapRangeCmpFunc_Decl y1.2.2 (w64 (m - y1.1)) m y1.2.1 cmp).bind fun v2 => (eqn v2.length y1.2.2.length).bind fun _ => some (.inl ((w64 (y1.1 - y1.2.1)), y1.2.1, v2)) else (slices_swapRangeCmpFunc_Decl y1.2.2 (w64 (m - y1.1)) (w64 ((w64 (m + y1.2.1)) - y1.1)) y1.1 cmp).bind fun v4 => (eqn v4.length y1.2.2.length).bind fun _ => some (.inl (y1.1, (w64 (y1.2.1 - y1.1)), v4))) else some (.inr (y1.1, y1.2.2)))
noncomputable def slices_rotateCmpFunc_Decl (data : (List TDecl)) (a : Int) (m : Int) (b : Int) (cmp : (TDecl → TDecl → Option Int)) : Option (List TDecl) :=
  (iter (slices_rotateCmpFunc_Decl_b1 m cmp) ((w64 (m - a)), (w64 (b - m)), data)).bind (fun (q6 : Int × (List TDecl)) => (slices_swapRangeCmpFunc_Decl q6.2 (w64 (m - q6.1)) m q6.1 cmp).bind fun v7 => (eqn v7.length q6.2.length).bind fun _ => some v7)
noncomputable def slices_symMergeCmpFunc_Decl_b1 (data : (List TDecl)) (a : Int) (cmp : (TDecl → TDecl → Option Int)) (y1 : Int × Int) : Option ((Int × Int) ⊕ Int) :=
  (bif (decide (y1.1 < y1.2)) then (at' data (w64 ((v64 (w64 (y1.1 + y1.2))).fdiv (2 ^ 1)))).bind fun v2 => (at' data a).bind fun v3 => (cmp v2 v3).bind fun v4 => (bif (decide (v4 < 0)) then some (.inl ((w64 ((w64 ((v64 (w64 (y1.1 + y1.2))).fdiv (2 ^ 1))) + 1)), y1.2)) else some (.inl (y1.1, (w64 ((v64 (w64 (y1.1 + y1.2))).fdiv (2 ^ 1)))))) else some (.inr y1.1))
noncomputable def slices_symMergeCmpFunc_Decl_b2 (q5 : Int) (y6 : Int × (List TDecl)) : Option ((Int × (List TDecl)) ⊕ (List TDecl)) :=
  (bif (decide (y6.1 < (w64 (q5 - 1)))) then (at' y6.2 (w64 (y6.1 + 1))).bind fun v7 => (at' y6.2 y6.1).bind fun v8 => (at' y6.2 y6.1).bind fun v9 => (put y6.2 y6.1 v7).bind fun v10 => (at' v10 (w64 (y6.1 + 1))).bind fun v11 => (put v10 (w64 (y6.1 + 1)) v8).bind fun v12 => some (.inl ((w64 (y6.1 + 1)), v12)) else some (.inr y6.2))
noncomputable def slices_symMergeCmpFunc_Decl_b3 (data : (List TDecl)) (m : Int) (cmp : (TDecl → TDecl → Option Int)) (y14 : Int × Int) : Option ((Int × Int) ⊕ Int) :=
  (bif (decide (y14.1 < y14.2)) then (at' data m).bind fun v15 => (at' data (w64 ((v64 (w64 (y14.1 + y14.2))).fdiv (2 ^ 1)))).bind fun v16 => (cmp v15 v16).bind fun v17 => (bif (!(decide (v17 < 0))) then some (.inl ((w64 ((w64 ((v64 (w64 (y14.1 + y14.2))).fdiv (2 ^ 1))) + 1)), y14.2)) else some (.inl (y14.1, (w64 ((v64 (w64 (y14.1 + y14.2))).fdiv (2 ^ 1)))))) else some (.inr y14.1))
noncomputable def slices_symMergeCmpFunc_Decl_b4 (q18 : Int) (y19 : Int × (List TDecl)) : Option ((Int × (List TDecl)) ⊕ (List TDecl)) :=
  (bif (decide (y19.1 > q18)) then (at' y19.2 (w64 (y19.1 - 1))).bind fun v20 => (at' y19.2 y19.1).bind fun v21 => (at' y19.2 y19.1).bind fun v22 => (put y19.2 y19.1 v20).bind fun v23 => (at' v23 (w64 (y19.1 - 1))).bind fun v24 => (put v23 (w64 (y19.1 - 1)) v21).bind fun v25 => some (.inl ((w64 (y19.1 - 1)), v25)) else some (.inr y19.2))
noncomputable def slices_symMergeCmpFunc_Decl_b5 (data : (List TDecl)) (a : Int) (m : Int) (b : Int) (cmp : (TDecl → TDecl → Option Int)) (y27 : Int × Int) : Option ((Int × Int) ⊕ (Int × Int × Int)) :=
  (bif (decide (y27.1 < y27.2)) then (at' data (w64 ((w64 ((w64 ((w64 ((v64 (w64 (a + b))).fdiv (2 ^ 1))) + m)) - 1)) - (w64 ((v64 (w64 (y27.1 + y27.2))).fdiv (2 ^ 1)))))).bind fun v28 => (at' data (w64 ((v64 (w64 (y27.1 + y27.2))).fdiv (2 ^ 1)))).bind fun v29 => (cmp v28 v29).bind fun v30 => (bif (!(decide (v30 < 0))) then some (.inl ((w64 ((w64 ((v64 (w64 (y27.1 + y27.2))).fdiv (2 ^ 1))) + 1)), y27.2)) else some (.inl (y27.1, (w64 ((v64 (w64 (y27.1 + y27.2))).fdiv (2 ^ 1)))))) else some (.inr ((w64 ((v64 (w64 (a + b))).fdiv (2 ^ 1))), (w64 ((w64 ((v64 (w64 (a + b))).fdiv (2 ^ 1))) + m)), y27.1)))
noncomputable def slices_symMergeCmpFunc_Decl_b6 (data : (List TDecl)) (a : Int) (m : Int) (b : Int) (cmp : (TDecl → TDecl → Option Int)) (y49 : Int × Int) : Option ((Int × Int) ⊕ (Int × Int × Int)) :=
  (bif (decide (y49.1 < y49.2)) then (at' data (w64 ((w64 ((w64 ((w64 ((v64 (w64 (a + b))).fdiv (2 ^ 1))) + m)) - 1)) - (w64 ((v64 (w64 (y49.1 + y49.2))).fdiv (2 ^ 1)))))).bind fun v50 => (at' data (w64 ((v64 (w64 (y49.1 + y49.2))).fdiv (2 ^ 1)))).bind fun v51 => (cmp v50 v51).bind fun v52 => (bif (!(decide (v52 < 0))) then some (.inl ((w64 ((w64 ((v64 (w64 (y49.1 + y49.2))).fdiv (2 ^ 1))) + 1)), y49.2)) else some (.inl (y49.1, (w64 ((v64 (w64 (y49.1 + y49.2))).fdiv (2 ^ 1)))))) else some (.inr ((w64 ((v64 (w64 (a + b))).fdiv (2 ^ 1))), (w64 ((w64 ((v64 (w64 (a + b))).fdiv (2 ^ 1))) + m)), y49.1)))
noncomputable def slices_symMergeCmpFunc_Decl_F (frec : ((List TDecl) → Int → Int → Int → (TDecl → TDecl → Option Int) → Option (List TDecl))) (data : (List TDecl)) (a : Int) (m : Int) (b : Int) (cmp : (TDecl → TDecl → Option Int)) : Option (List TDecl) :=
  (bif ((w64 (m - a)) == 1) then (iter (slices_symMergeCmpFunc_Decl_b1 data a cmp) (m, b)).bind (fun (q5 : Int) => (iter (slices_symMergeCmpFunc_Decl_b2 q5) (a, data)).bind (fun (q13 : (List TDecl)) => some q13)) else (bif ((w64 (b - m)) == 1) then (iter (slices_symMergeCmpFunc_Decl_b3 data m cmp) (a, m)).bind (fun (q18 : Int) => (iter (slices_symMergeCmpFunc_Decl_b4 q18) (m, data)).bind (fun (q26 : (List TDecl)) => some q26)) else (bif (decide (m > (w64 ((v64 (w64 (a + b))).fdiv (2 ^ 1))))) then (iter (slices_symMergeCmpFunc_Decl_b5 data a m b cmp) ((w64 ((w64 ((w64 ((v64 (w64 (a + b))).fdiv (2 ^ 1))) + m)) - b)), (w64 ((v64 (w64 (a + b))).fdiv (2 ^ 1))))).bind (fun (q31 : Int × Int × Int) => ((bif (decide (q31.2.2 < m)) then some (decide (m < (w64 (q31.2.1 - q31.2.2)))) else some false) : Option (Bool)).bind (fun (q32 : Bool) => (bif q32 then (slices_rotateCmpFunc_Decl data q31.2.2 m (w64 (q31.2.1 - q31.2.2)) cmp).bind fun v33 => (eqn v33.length data.length).bind fun _ => ((bif (decide (a < q31.2.2)) then some (decide (q31.2.2 < q31.1)) else some false) : Option (Bool)).bind (fun (q34 : Bool) => (bif q34 then (frec v33 a q31.2.2 q31.1 cmp).bind fun v35 => (eqn v35.length v33.length).bind fun _ => (bif (decide (q31.1 < (w64 (q31.2.1 - q31.2.2)))) then (bif (decide ((w64 (q31.2.1 - q31.2.2)) < b)) then (frec v35 q31.1 (w64 (q31.2.1 - q31.2.2)) b cmp).bind fun v36 => (eqn v36.length v35.length).bind fun _ => some v36 else some v35) else some v35) else (bif (decide (q31.1 < (w64 (q31.2.1 - q31.2.2)))) then (bif (decide ((w64 (q31.2.1 - q31.2.2)) < b)) then (frec v33 q31.1 (w64 (q31.2.1 - q31.2.2)) b cmp).bind fun v39 => (eqn v39.length v33.length).bind fun _ => some v39 else some v33) else some v33))) else ((bif (decide (a < q31.2.2)) then some (decide (q31.2.2 < q31.1)) else some false) : Option (Bool)).bind (fun (q42 : Bool) => (bif q42 then (frec data a q31.2.2 q31.1 cmp).bind fun v43 => (eqn v43.length data.length).bind fun _ => (bif (decide (q31.1 < (w64 (q31.2.1 - q31.2.2)))) then (bif (decide ((w64 (q31.2.1 - q31.2.2)) < b)) then (frec v43 q31.1 (w64 (q31.2.1 - q31.2.2)) b cmp).bind fun v44 => (eqn v44.length v43.length).bind fun _ => some v44 else some v43) else some v43) else (bif (decide (q31.1 < (w64 (q31.2.1 - q31.2.2)))) then (bif (decide ((w64 (q31.2.1 - q31.2.2)) < b)) then (frec data q31.1 (w64 (q31.2.1 - q31.2.2)) b cmp).bind fun v47 => (eqn v47.length data.length).bind fun _ => some v47 else some data) else some data)))))) else (iter (slices_symMergeCmpFunc_Decl_b6 data a m b cmp) (a, m)).bind (fun (q53 : Int × Int × Int) => ((bif (decide (q53.2.2 < m)) then some (decide (m < (w64 (q53.2.1 - q53.2.2)))) else some false) : Option (Bool)).bind (fun (q54 : Bool) => (bif q54 then (slices_rotateCmpFunc_Decl data q53.2.2 m (w64 (q53.2.1 - q53.2.2)) cmp).bind fun v55 => (eqn v55.length data.length).bind fun _ => ((bif (decide (a < q53.2.2)) then some (decide (q53.2.2 < q53.1)) else some false) : Option (Bool)).bind (fun (q56 : Bool) => (bif q56 then (frec v55 a q53.2.2 q53.1 cmp).bind fun v57 => (eqn v57.length v55.length).bind fun _ => (bif (decide (q53.1 < (w64 (q53.2.1 - q53.2.2)))) then (bif (decide ((w64 (q53.2.1 - q53.2.2)) < b)) then (frec v57 q53.1 (w64 (q53.2.1 - q53.2.2)) b cmp).bind fun v58 => (eqn v58.length v57.length).bind fun _ => some v58 else some v57) else some v57) else (bif (decide (q53.1 < (w64 (q53.2.1 - q53.2.2)))) then (bif (decide ((w64 (q53.2.1 - q53.2.2)) < b)) then (frec v55 q53.1 (w64 (q53.2.1 - q53.2.2)) b cmp).bind fun v61 => (eqn v61.length v55.length).bind fun _ => some v61 else some v55) else some v55))) else ((bif (decide (a < q53.2.2)) then some (decide (q53.2.2 < q53.1)) else some false) : Option (Bool)).bind (fun (q64 : Bool) => (bif q64 then (frec data a q53.2.2 q53.1 cmp).bind fun v65 => (eqn v65.length data.length).bind fun _ => (bif (decide (q53.1 < (w64 (q53.2.1 - q53.2.2)))) then (bif (decide ((w64 (q53.2.1 - q53.2.2)) < b)) then (frec v65 q53.1 (w64 (q53.2.1 - q53.2.2)) b cmp).bind fun v66 => (eqn v66.length v65.length).bind fun _ => some v66 else some v65) else some v65) else (bif (decide (q53.1 < (w64 (q53.2.1 - q53.2.2)))) then (bif (decide ((w64 (q53.2.1 - q53.2.2)) < b)) then (frec data q53.1 (w64 (q53.2.1 - q53.2.2)) b cmp).bind fun v69 => (eqn v69.length data.length).bind fun _ => some v69 else some data) else some data)))))))))
noncomputable def slices_symMergeCmpFunc_Decl_n : Nat → ((List TDecl) → Int → Int → Int → (TDecl → TDecl → Option Int) → Option (List TDecl))
  | 0 => fun _ _ _ _ _ => none
  | fuel + 1 => slices_symMergeCmpFunc_Decl_F (slices_symMergeCmpFunc_Decl_n fuel)
noncomputable def slices_symMergeCmpFunc_Decl (data : (List TDecl)) (a : Int) (m : Int) (b : Int) (cmp : (TDecl → TDecl → Option Int)) : Option (List TDecl) := lim fun fuel => slices_symMergeCmpFunc_Decl_n fuel data a m b cmp
noncomputable def slices_stableCmpFunc_Decl_b1 (n : Int) (cmp : (TDecl → TDecl → Option Int)) (y1 : Int × Int × (List TDecl)) : Option ((Int × Int × (List TDecl)) ⊕ (Int × (List TDecl))) :=
  (bif (decide (y1.2.1 ≤ n)) then (slices_insertionSortCmpFunc_Decl y1.2.2 y1.1 y1.2.1 cmp).bind fun v2 => (eqn v2.length y1.2.2.length).bind fun _ => some (.inl (y1.2.1, (w64 (y1.2.1 + 20)), v2)) else some (.inr (y1.1, y1.2.2)))
noncomputable def slices_stableCmpFunc_Decl_b3 (n : Int) (cmp : (TDecl → TDecl → Option Int)) (y6 : Int × (List TDecl)) (y7 : Int × Int × (List TDecl)) : Option ((Int × Int × (List TDecl)) ⊕ (Int × (List TDecl))) :=
  (bif (decide (y7.2.1 ≤ n)) then (slices_symMergeCmpFunc_Decl y7.2.2 y7.1 (w64 (y7.1 + y6.1)) y7.2.1 cmp).bind fun v8 => (eqn v8.length y7.2.2.length).bind fun _ => some (.inl (y7.2.1, (w64 (y7.2.1 + (w64 (2 * y6.1)))), v8)) else some (.inr (y7.1, y7.2.2)))
noncomputable def slices_stableCmpFunc_Decl_b2 (n : Int) (cmp : (TDecl → TDecl → Option Int)) (y6 : Int × (List TDecl)) : Option ((Int × (List TDecl)) ⊕ (List TDecl)) :=
  (bif (decide (y6.1 < n)) then (iter (slices_stableCmpFunc_Decl_b3 n cmp y6) (0, (w64 (2 * y6.1)), y6.2)).bind (fun (q10 : Int × (List TDecl)) => (bif (decide ((w64 (q10.1 + y6.1)) < n)) then (slices_symMergeCmpFunc_Decl q10.2 q10.1 (w64 (q10.1 + y6.1)) n cmp).bind fun v11 => (eqn v11.length q10.2.length).bind fun _ => some (.inl ((w64 (y6.1 * 2)), v11)) else some (.inl ((w64 (y6.1 * 2)), q10.2)))) else some (.inr y6.2))
noncomputable def slices_stableCmpFunc_Decl (data : (List TDecl)) (n : Int) (cmp : (TDecl → TDecl → Option Int)) : Option (List TDecl) :=
  (iter (slices_stableCmpFunc_Decl_b1 n cmp) (0, 20, data)).bind (fun (q4 : Int × (List TDecl)) => (slices_insertionSortCmpFunc_Decl q4.2 q4.1 n cmp).bind fun v5 => (eqn v5.length q4.2.length).bind fun _ => (iter (slices_stableCmpFunc_Decl_b2 n cmp) (20, v5)).bind (fun (q13 : (List TDecl)) => some q13))
noncomputable def slices_SortStableFunc_Decl (x : (List TDecl)) (cmp : (TDecl → TDecl → Option Int)) : Option (List TDecl) :=
  (slices_stableCmpFunc_Decl x (x.length : Int) cmp).bind fun v1 => (eqn v1.length x.length).bind fun _ => some v1
noncomputable def cmp_isNaN_string (x : Str) : Option Bool :=
  some (!(x == x))
noncomputable def cmp_Compare_string (x : Str) (y_ : Str) : Option Int :=
  (cmp_isNaN_string x).bind fun v1 => (cmp_isNaN_string y_).bind fun v2 => (bif v1 then (bif v2 then some 0 else some (-1)) else (bif v2 then some 1 else (bif (lt x y_) then some (-1) else (bif (!(lt x y_ || x == y_)) then some 1 else some 0))))
noncomputable def cmp_Or_int_b1 (vals : (List Int)) (y1 : Int) : Option (Int ⊕ (Int ⊕ Unit)) :=
  (bif (decide (y1 < (vals.length : Int))) then (at' vals y1).bind fun v2 => (bif (v2 != 0) then some (.inr (Sum.inl v2)) else some (.inl (w64 (y1 + 1)))) else some (.inr (Sum.inr ())))
noncomputable def cmp_Or_int (vals : (List Int)) : Option Int :=
  (iter (cmp_Or_int_b1 vals) 0).bind (Sum.elim (fun (q3 : Int) => some q3) (fun (q4 : Unit) => some 0))
noncomputable def space_Sorted_c1 (a : TDecl) (b : TDecl) : Option Int :=
  (cmp_Compare_string a.Prefix b.Prefix).bind fun v1 => (cmp_Compare_string a.URI b.URI).bind fun v2 => (cmp_Or_int [v1, v2]).bind fun v3 => some v3
noncomputable def space_Sorted (l : (List TDecl)) : Option (List TDecl) :=
  (slices_Clone_Decl l).bind fun v1 => (slices_SortStableFunc_Decl v1 (fun x0 x1 => space_Sorted_c1 x0 x1)).bind fun v2 => (eqn v2.length v1.length).bind fun _ => some v2
noncomputable def space_Scope_b2 (v6 : TNode) (y7 : Int × (List (Str × Bool)) × (List TDecl)) : Option ((Int × (List (Str × Bool)) × (List TDecl)) ⊕ ((List (Str × Bool)) × (List TDecl))) :=
  (bif (decide (y7.1 < (v6.Decls.length : Int))) then (at' v6.Decls y7.1).bind fun v8 => (bif (!((mget y7.2.1 v8.Prefix).getD false)) then (bif (!(v8.URI == [])) then (app 32 y7.2.2 [v8]).bind fun v9 => some (.inl ((w64 (y7.1 + 1)), (mput y7.2.1 v8.Prefix true), v9)) else some (.inl ((w64 (y7.1 + 1)), (mput y7.2.1 v8.Prefix true), y7.2.2))) else some (.inl ((w64 (y7.1 + 1)), (mput y7.2.1 v8.Prefix true), y7.2.2))) else some (.inr (y7.2.1, y7.2.2)))
noncomputable def space_Scope_b1 (d : (Option TDoc)) (v3 : (List Int)) (y4 : Int × (List (Str × Bool)) × (List TDecl)) : Option ((Int × (List (Str × Bool)) × (List TDecl)) ⊕ (List TDecl)) :=
  (bif (decide (y4.1 < (v3.length : Int))) then (at' v3 y4.1).bind fun v5 => (doc_Doc_Node d v5).bind fun v6 => (iter (space_Scope_b2 v6) (0, y4.2.1, y4.2.2)).bind (fun (q10 : (List (Str × Bool)) × (List TDecl)) => some (.inl ((w64 (y4.1 + 1)), q10.1, q10.2))) else some (.inr y4.2.2))
noncomputable def space_Scope (d : (Option TDoc)) (n : Int) : Option (List TDecl) :=
  (doc_Doc_Node d n).bind fun v1 => (bif (v1.Kind != 1) then some [] else (doc_Doc_Up d n).bind fun v2 => (slices_Insert_int v2 0 [n]).bind fun v3 => (iter (space_Scope_b1 d v3) (0, (mput [] [120, 109, 108] true), [(TDecl.mk [120, 109, 108] [104, 116, 116, 112, 58, 47, 47, 119, 119, 119, 46, 119, 51, 46, 111, 114, 103, 47, 88, 77, 76, 47, 49, 57, 57, 56, 47, 110, 97, 109, 101, 115, 112, 97, 99, 101])])).bind (fun (q11 : (List TDecl)) => (space_Sorted q11).bind fun v12 => some v12))
noncomputable def space_Find_b1 (prefix_ : Str) (v1 : (List TDecl)) (y2 : Int) : Option (Int ⊕ (Str ⊕ Unit)) :=
  (bif (decide (y2 < (v1.length : Int))) then (at' v1 y2).bind fun v3 => (bif (v3.Prefix == prefix_) then some (.inr (Sum.inl v3.URI)) else some (.inl (w64 (y2 + 1)))) else some (.inr (Sum.inr ())))
noncomputable def space_Find (d : (Option TDoc)) (n : Int) (prefix_ : Str) : Option (Str × Bool) :=
  (space_Scope d n).bind fun v1 => (iter (space_Find_b1 prefix_ v1) 0).bind (Sum.elim (fun (q4 : Str) => some (q4, true)) (fun (q5 : Unit) => some ([], false)))
noncomputable def apostillelaw09_awake : Option Bool :=
  (parse_Parse [60, 97, 32, 120, 109, 108, 110, 115, 61, 39, 117, 39, 47, 62]).bind fun v1 => (space_Find v1.1 1 []).bind fun v2 => (bif (v1.2 == 0) then (bif v2.2 then (bif (v2.1 == [117]) then (space_Scope v1.1 1).bind fun v3 => some ((v3.length : Int) == 2) else some false) else some false) else some false)
noncomputable def apostilleref09_less (a : TDecl) (b : TDecl) : Option Bool :=
  (bif (!(a.Prefix == b.Prefix)) then some (lt a.Prefix b.Prefix) else some (lt a.URI b.URI))
noncomputable def apostilleref09_Sorted_b2 (l : (List TDecl)) (y1 : Int × (List TDecl)) (y2 : Int) : Option (Int ⊕ Int) :=
  (bif (decide (y2 < (y1.2.length : Int))) then (at' l y1.1).bind fun v3 => (at' y1.2 y2).bind fun v4 => (apostilleref09_less v3 v4).bind fun v5 => (bif (!v5) then some (.inl (w64 (y2 + 1))) else some (.inr y2)) else some (.inr y2))
noncomputable def apostilleref09_Sorted_b1 (l : (List TDecl)) (y1 : Int × (List TDecl)) : Option ((Int × (List TDecl)) ⊕ (List TDecl)) :=
  (bif (decide (y1.1 < (l.length : Int))) then (iter (apostilleref09_Sorted_b2 l y1) 0).bind (fun (q6 : Int) => (rng (y1.2.length : Int) 0 q6).bind fun _ => (at' l y1.1).bind fun v7 => (rng (y1.2.length : Int) q6 (y1.2.length : Int)).bind fun _ => (appp 32 [] y1.2 0 q6.toNat).bind fun v8 => (app 32 v8 [v7]).bind fun v9 => (appp 32 v9 y1.2 q6.toNat ((y1.2.length : Int).toNat - q6.toNat)).bind fun v10 => some (.inl ((w64 (y1.1 + 1)), v10))) else some (.inr y1.2))
noncomputable def apostilleref09_Sorted (l : (List TDecl)) : Option (List TDecl) :=
  (iter (apostilleref09_Sorted_b1 l) (0, [])).bind (fun (q11 : (List TDecl)) => some q11)
noncomputable def apostilleref09_Same_b1 (a : (List TDecl)) (b : (List TDecl)) (y1 : Int) : Option (Int ⊕ (Unit ⊕ Unit)) :=
  (bif (decide (y1 < (a.length : Int))) then (at' a y1).bind fun v2 => (at' b y1).bind fun v3 => (bif (!(TDecl.eqb v2 v3)) then some (.inr (Sum.inl ())) else some (.inl (w64 (y1 + 1)))) else some (.inr (Sum.inr ())))
noncomputable def apostilleref09_Same (a : (List TDecl)) (b : (List TDecl)) : Option Bool :=
  (bif ((a.length : Int) != (b.length : Int)) then some false else (iter (apostilleref09_Same_b1 a b) 0).bind (Sum.elim (fun (q4 : Unit) => some false) (fun (q5 : Unit) => some true)))
noncomputable def apostillelaw09_SpaceSorts (l : (List TDecl)) : Option Bool :=
  (apostillelaw09_awake).bind fun v1 => (bif (!v1) then (apostillelaw09_awake).bind fun v2 => some v2 else (bif (decide ((l.length : Int) > 60)) then (apostillelaw09_awake).bind fun v3 => some v3 else (app 32 [] l).bind fun v4 => (space_Sorted l).bind fun v5 => (apostilleref09_Sorted l).bind fun v6 => (apostilleref09_Same v5 v6).bind fun v7 => (bif v7 then (apostilleref09_Same l v4).bind fun v8 => some v8 else some false)))
end G
