/-
  PLAIN FUNCTIONS, printed by aw.py: what the functions compute. No program, no memory. Conditions: none.
-/
import Derived.Test.YtebcdmfekidfoaaDoorAbsPureS
import Derived.Lib.ItoaNum
set_option linter.unusedVariables false
namespace G
open W
structure TPoint where
  N : Int
  Part : Int
  I : Int
def TPoint.ints (x : TPoint) : List Int := [x.N, x.Part, x.I]
def TPoint.eqb (x y : TPoint) : Bool := x.ints == y.ints
structure TValue where
  Kind : Int
  Set : (List TPoint)
  Bool_ : Bool
  N : Int
  NaN : Bool
  Text : Str
structure TDecl where
  Prefix : Str
  URI : Str
structure TAttr where
  Prefix : Str
  Local : Str
  URI : Str
  Value : Str
structure TNode where
  Kind : Int
  Parent : Int
  Prefix : Str
  Local : Str
  URI : Str
  Text : Str
  Decls : (List TDecl)
  Attrs : (List TAttr)
structure TDoc where
  l : (List TNode)
  end_ : (List Int)
  top : Int
noncomputable def name_Blank (c : UInt8) : Option Bool :=
  (bif ((c.toNat : Int) == 32) then some true else (bif ((c.toNat : Int) == 9) then some true else (bif ((c.toNat : Int) == 10) then some true else some ((c.toNat : Int) == 13))))
noncomputable def name_Trim_b1 (y1 : Str) : Option (Str ⊕ Str) :=
  (bif (!(y1 == [])) then (at' y1 0).bind fun v2 => (name_Blank v2).bind fun v3 => (bif v3 then (sub' y1 1 (y1.length : Int)).bind fun v4 => some (.inl v4) else some (.inr y1)) else some (.inr y1))
noncomputable def name_Trim_b2 (y6 : Str) : Option (Str ⊕ Str) :=
  (bif (!(y6 == [])) then (at' y6 (w64 ((y6.length : Int) - 1))).bind fun v7 => (name_Blank v7).bind fun v8 => (bif v8 then (sub' y6 0 (w64 ((y6.length : Int) - 1))).bind fun v9 => some (.inl v9) else some (.inr y6)) else some (.inr y6))
noncomputable def name_Trim (s : Str) : Option Str :=
  (iter (name_Trim_b1) s).bind (fun (q5 : Str) => (iter (name_Trim_b2) q5).bind (fun (q10 : Str) => some q10))
noncomputable def stringslite_HasPrefix (s : Str) (prefix_ : Str) : Option Bool :=
  (bif (decide ((s.length : Int) ≥ (prefix_.length : Int))) then (sub' s 0 (prefix_.length : Int)).bind fun v1 => some (v1 == prefix_) else some false)
noncomputable def stringslite_CutPrefix (s : Str) (prefix_ : Str) : Option (Str × Bool) :=
  (stringslite_HasPrefix s prefix_).bind fun v1 => (bif (!v1) then some (s, false) else (sub' s (prefix_.length : Int) (s.length : Int)).bind fun v2 => some (v2, true))
noncomputable def strings_CutPrefix (s : Str) (prefix_ : Str) : Option (Str × Bool) :=
  (stringslite_CutPrefix s prefix_).bind fun v1 => some (v1.1, v1.2)
noncomputable def stringslite_IndexByte (s : Str) (c : UInt8) : Option Int :=
  some (indexByte s c)
noncomputable def bytealg_Cutover (n : Int) : Option Int :=
  some (w64 ((w64 (n + 16)).tdiv 8))
noncomputable def bytealg_hashStr_string_b1 (sep : Str) (y1 : Int × Int) : Option ((Int × Int) ⊕ Int) :=
  (bif (decide (y1.2 < (sep.length : Int))) then (at' sep y1.2).bind fun v2 => some (.inl ((v32 ((v32 (y1.1 * 16777619)) + (v32 (v2.toNat : Int)))), (w64 (y1.2 + 1)))) else some (.inr y1.1))
noncomputable def bytealg_hashStr_string_b2 (y4 : Int × Int × Int) : Option ((Int × Int × Int) ⊕ Int) :=
  (bif (decide (y4.2.2 > 0)) then (bif ((w64 (band 64 y4.2.2 1)) != 0) then some (.inl ((v32 (y4.1 * y4.2.1)), (v32 (y4.2.1 * y4.2.1)), (y4.2.2.fdiv (2 ^ 1)))) else some (.inl (y4.1, (v32 (y4.2.1 * y4.2.1)), (y4.2.2.fdiv (2 ^ 1))))) else some (.inr y4.1))
noncomputable def bytealg_hashStr_string (sep : Str) : Option (Int × Int) :=
  (iter (bytealg_hashStr_string_b1 sep) (0, 0)).bind (fun (q3 : Int) => (iter (bytealg_hashStr_string_b2) (1, 16777619, (sep.length : Int))).bind (fun (q5 : Int) => some (q3, q5)))
noncomputable def bytealg_IndexRabinKarp_string_b1 (s : Str) (sep : Str) (y2 : Int × Int) : Option ((Int × Int) ⊕ Int) :=
  (bif (decide (y2.2 < (sep.length : Int))) then (at' s y2.2).bind fun v3 => some (.inl ((v32 ((v32 (y2.1 * 16777619)) + (v32 (v3.toNat : Int)))), (w64 (y2.2 + 1)))) else some (.inr y2.1))
noncomputable def bytealg_IndexRabinKarp_string_b2 (s : Str) (sep : Str) (v1 : Int × Int) (y7 : Int × Int) : Option ((Int × Int) ⊕ (Int ⊕ Unit)) :=
  (bif (decide (y7.2 < (s.length : Int))) then (at' s y7.2).bind fun v8 => (at' s (w64 (y7.2 - (sep.length : Int)))).bind fun v9 => (bif ((v32 ((v32 ((v32 (y7.1 * 16777619)) + (v32 (v8.toNat : Int)))) - (v32 (v1.2 * (v32 (v9.toNat : Int)))))) == v1.1) then (sub' s (w64 ((w64 (y7.2 + 1)) - (sep.length : Int))) (w64 (y7.2 + 1))).bind fun v10 => (bif (v10 == sep) then some (.inr (Sum.inl (w64 ((w64 (y7.2 + 1)) - (sep.length : Int))))) else some (.inl ((v32 ((v32 ((v32 (y7.1 * 16777619)) + (v32 (v8.toNat : Int)))) - (v32 (v1.2 * (v32 (v9.toNat : Int)))))), (w64 (y7.2 + 1))))) else some (.inl ((v32 ((v32 ((v32 (y7.1 * 16777619)) + (v32 (v8.toNat : Int)))) - (v32 (v1.2 * (v32 (v9.toNat : Int)))))), (w64 (y7.2 + 1))))) else some (.inr (Sum.inr ())))
noncomputable def bytealg_IndexRabinKarp_string (s : Str) (sep : Str) : Option Int :=
  (bytealg_hashStr_string sep).bind fun v1 => (iter (bytealg_IndexRabinKarp_string_b1 s sep) (0, 0)).bind (fun (q4 : Int) => ((bif (q4 == v1.1) then (sub' s 0 (sep.length : Int)).bind fun v5 => some (v5 == sep) else some false) : Option (Bool)).bind (fun (q6 : Bool) => (bif q6 then some 0 else (iter (bytealg_IndexRabinKarp_string_b2 s sep v1) (q4, (sep.length : Int))).bind (Sum.elim (fun (q11 : Int) => some q11) (fun (q12 : Unit) => some (-1))))))
noncomputable def stringslite_Index (s : Str) (substr : Str) : Option Int :=
  ((bif ((substr.length : Int) == 0) then some true else some (substr == s)) : Option (Bool)).bind (fun (q1 : Bool) => (bif q1 then some 0 else (bif ((substr.length : Int) == 1) then (at' substr 0).bind fun v2 => (stringslite_IndexByte s v2).bind fun v3 => some v3 else (bif (decide ((substr.length : Int) ≥ (s.length : Int))) then some (-1) else none))))
noncomputable def stringslite_Cut (s : Str) (sep : Str) : Option (Str × Str × Bool) :=
  (stringslite_Index s sep).bind fun v1 => (bif (decide (v1 ≥ 0)) then (sub' s 0 v1).bind fun v2 => (sub' s (w64 (v1 + (sep.length : Int))) (s.length : Int)).bind fun v3 => some (v2, v3, true) else some (s, [], false))
noncomputable def strings_Cut (s : Str) (sep : Str) : Option (Str × Str × Bool) :=
  (stringslite_Cut s sep).bind fun v1 => some (v1.1, v1.2.1, v1.2.2)
noncomputable def strings_indexFunc_b1 (s : Str) (f : (Int → Option Bool)) (truth : Bool) (y1 : Nat) : Option (Nat ⊕ (Int ⊕ Unit)) :=
  (bif (decide (y1 < s.length)) then (f ((dec s y1).1 : Int)).bind fun v2 => (bif (v2 == truth) then some (.inr (Sum.inl (y1 : Int))) else some (.inl (y1 + (dec s y1).2))) else some (.inr (Sum.inr ())))
noncomputable def strings_indexFunc (s : Str) (f : (Int → Option Bool)) (truth : Bool) : Option Int :=
  (iter (strings_indexFunc_b1 s f truth) 0).bind (Sum.elim (fun (q3 : Int) => some q3) (fun (q4 : Unit) => some (-1)))
noncomputable def strings_IndexFunc (s : Str) (f : (Int → Option Bool)) : Option Int :=
  (strings_indexFunc s f true).bind fun v1 => some v1
noncomputable def value_digits_c1 (c : Int) : Option Bool :=
  (bif (decide (c < 48)) then some true else some (decide (c > 57)))
noncomputable def value_digits (s : Str) : Option Bool :=
  (strings_IndexFunc s (fun x0 => value_digits_c1 x0)).bind fun v1 => some (decide (v1 < 0))
noncomputable def value_None : Option TValue :=
  some (TValue.mk 2 [] false 0 true [])
noncomputable def strings_trimRightByte_b1 (c : UInt8) (y1 : Str) : Option (Str ⊕ Str) :=
  (bif (decide ((y1.length : Int) > 0)) then (at' y1 (w64 ((y1.length : Int) - 1))).bind fun v2 => (bif ((v2.toNat : Int) == (c.toNat : Int)) then (sub' y1 0 (w64 ((y1.length : Int) - 1))).bind fun v3 => some (.inl v3) else some (.inr y1)) else some (.inr y1))
noncomputable def strings_trimRightByte (s : Str) (c : UInt8) : Option Str :=
  (iter (strings_trimRightByte_b1 c) s).bind (fun (q4 : Str) => some q4)
noncomputable def strings_trimLeftByte_b1 (c : UInt8) (y1 : Str) : Option (Str ⊕ Str) :=
  (bif (decide ((y1.length : Int) > 0)) then (at' y1 0).bind fun v2 => (bif ((v2.toNat : Int) == (c.toNat : Int)) then (sub' y1 1 (y1.length : Int)).bind fun v3 => some (.inl v3) else some (.inr y1)) else some (.inr y1))
noncomputable def strings_trimLeftByte (s : Str) (c : UInt8) : Option Str :=
  (iter (strings_trimLeftByte_b1 c) s).bind (fun (q4 : Str) => some q4)
noncomputable def utf8_decodeRuneInStringSlow (s : Str) : Option (Int × Int) :=
  (bif (decide ((s.length : Int) < 1)) then some (65533, 0) else none)
noncomputable def utf8_DecodeRuneInString (s : Str) : Option (Int × Int) :=
  (bif (!(s == [])) then (at' s 0).bind fun v1 => (bif (decide ((v1.toNat : Int) < 128)) then (at' s 0).bind fun v2 => some ((w32 (v2.toNat : Int)), 1) else (utf8_decodeRuneInStringSlow s).bind fun v3 => some (v3.1, v3.2)) else (utf8_decodeRuneInStringSlow s).bind fun v4 => some (v4.1, v4.2))
noncomputable def utf8_DecodeLastRuneInString_b1 (s : Str) (y2 : Unit) : Option (Unit ⊕ Unit) :=
  (bif (decide ((w64 ((w64 ((s.length : Int) - 1)) - 1)) ≥ (mx (w64 ((s.length : Int) - 4)) 0))) then none else some (.inr ()))
noncomputable def utf8_DecodeLastRuneInString (s : Str) : Option (Int × Int) :=
  (bif ((s.length : Int) == 0) then some (65533, 0) else (at' s (w64 ((s.length : Int) - 1))).bind fun v1 => (bif (decide ((w32 (v1.toNat : Int)) < 128)) then some ((w32 (v1.toNat : Int)), 1) else (iter (utf8_DecodeLastRuneInString_b1 s) ()).bind (fun (q4 : Unit) => (bif (decide ((w64 ((w64 ((s.length : Int) - 1)) - 1)) < 0)) then (sub' s 0 (s.length : Int)).bind fun v5 => (utf8_DecodeRuneInString v5).bind fun v6 => (bif ((w64 (0 + v6.2)) != (s.length : Int)) then some (65533, 1) else some (v6.1, v6.2)) else (sub' s (w64 ((w64 ((s.length : Int) - 1)) - 1)) (s.length : Int)).bind fun v7 => (utf8_DecodeRuneInString v7).bind fun v8 => (bif ((w64 ((w64 ((w64 ((s.length : Int) - 1)) - 1)) + v8.2)) != (s.length : Int)) then some (65533, 1) else some (v8.1, v8.2))))))
noncomputable def strings_trimRightUnicode_b1 (s : Str) (y1 : Unit) : Option (Unit ⊕ Unit) :=
  (bif (decide ((s.length : Int) > 0)) then none else some (.inr ()))
noncomputable def strings_trimRightUnicode (s : Str) (cutset : Str) : Option Str :=
  (iter (strings_trimRightUnicode_b1 s) ()).bind (fun (q4 : Unit) => some s)
noncomputable def strings_trimLeftUnicode_b1 (s : Str) (y1 : Unit) : Option (Unit ⊕ Unit) :=
  (bif (decide ((s.length : Int) > 0)) then none else some (.inr ()))
noncomputable def strings_trimLeftUnicode (s : Str) (cutset : Str) : Option Str :=
  (iter (strings_trimLeftUnicode_b1 s) ()).bind (fun (q3 : Unit) => some s)
noncomputable def strings_Trim (s : Str) (cutset : Str) : Option Str :=
  ((bif (s == []) then some true else some (cutset == [])) : Option (Bool)).bind (fun (q1 : Bool) => (bif q1 then some s else ((bif ((cutset.length : Int) == 1) then (at' cutset 0).bind fun v2 => some (decide ((v2.toNat : Int) < 128)) else some false) : Option (Bool)).bind (fun (q3 : Bool) => (bif q3 then (at' cutset 0).bind fun v4 => (at' cutset 0).bind fun v5 => (strings_trimRightByte s v4).bind fun v6 => (strings_trimLeftByte v6 v5).bind fun v7 => some v7 else none))))
noncomputable def value_OfNumber (n : Int) : Option (TValue × Int) :=
  (bif (decide (n < (-9007199254740992))) then some ((TValue.mk 0 [] false 0 false []), 6) else (bif (decide (n > 9007199254740992)) then some ((TValue.mk 0 [] false 0 false []), 6) else some ((TValue.mk 2 [] false n false []), 0)))
noncomputable def value_Read_b1 (v3 : Str × Str × Bool) (y9 : Int × Int) : Option ((Int × Int) ⊕ Int) :=
  (bif (decide (y9.2 < (v3.1.length : Int))) then (at' v3.1 y9.2).bind fun v10 => some (.inl ((mn (w64 ((w64 (y9.1 * 10)) + (w64 ((v10 - 48).toNat : Int)))) 9007199254740993), (w64 (y9.2 + 1)))) else some (.inr y9.1))
noncomputable def value_Read (s : Str) : Option (TValue × Int) :=
  (name_Trim s).bind fun v1 => (strings_CutPrefix v1 [45]).bind fun v2 => (strings_Cut v2.1 [46]).bind fun v3 => ((value_digits v3.1).bind fun v4 => (bif (!v4) then some true else (value_digits v3.2.1).bind fun v5 => (bif (!v5) then some true else (bif (v3.1 == []) then some (v3.2.1 == []) else some false))) : Option (Bool)).bind (fun (q6 : Bool) => (bif q6 then (value_None).bind fun v7 => some (v7, 0) else (strings_Trim v3.2.1 [48]).bind fun v8 => (bif (!(v8 == [])) then some ((TValue.mk 0 [] false 0 false []), 6) else (iter (value_Read_b1 v3) (0, 0)).bind (fun (q11 : Int) => (bif v2.2 then (value_OfNumber (w64 (0 - q11))).bind fun v12 => some (v12.1, v12.2) else (value_OfNumber q11).bind fun v13 => some (v13.1, v13.2))))))
noncomputable def slices_Equal_Point_b1 (s1 : (List TPoint)) (s2 : (List TPoint)) (y1 : Int) : Option (Int ⊕ (Unit ⊕ Unit)) :=
  (bif (decide (y1 < (s1.length : Int))) then (at' s1 y1).bind fun v2 => (at' s2 y1).bind fun v3 => (bif (!(TPoint.eqb v2 v3)) then some (.inr (Sum.inl ())) else some (.inl (w64 (y1 + 1)))) else some (.inr (Sum.inr ())))
noncomputable def slices_Equal_Point (s1 : (List TPoint)) (s2 : (List TPoint)) : Option Bool :=
  (bif ((s1.length : Int) != (s2.length : Int)) then some false else (iter (slices_Equal_Point_b1 s1 s2) 0).bind (Sum.elim (fun (q4 : Unit) => some false) (fun (q5 : Unit) => some true)))
noncomputable def value_Same (a : TValue) (b : TValue) : Option Bool :=
  (bif (a.Kind == b.Kind) then (slices_Equal_Point a.Set b.Set).bind fun v1 => (bif v1 then (bif (a.Bool_ == b.Bool_) then (bif (a.N == b.N) then (bif (a.NaN == b.NaN) then some (a.Text == b.Text) else some false) else some false) else some false) else some false) else some false)
noncomputable def apostillelaw16_awake : Option Bool :=
  (value_Read [32, 45, 49, 50, 46, 48, 32]).bind fun v1 => (value_Read [49, 46, 53]).bind fun v2 => (bif (v1.2 == 0) then (bif (v1.1.Kind == 2) then (bif (v1.1.N == (-12)) then (bif (v2.2 == 6) then (value_Same v1.1 v1.1).bind fun v3 => some v3 else some false) else some false) else some false) else some false)
noncomputable def apostilleref05_Blank (c : UInt8) : Option Bool :=
  (bif ((c.toNat : Int) == 32) then some true else (bif ((c.toNat : Int) == 9) then some true else (bif ((c.toNat : Int) == 10) then some true else some ((c.toNat : Int) == 13))))
noncomputable def apostilleref05_Trim_b1 (s : Str) (y1 : Int) : Option (Int ⊕ Int) :=
  (bif (decide (y1 < (s.length : Int))) then (at' s y1).bind fun v2 => (apostilleref05_Blank v2).bind fun v3 => (bif v3 then some (.inl (w64 (y1 + 1))) else some (.inr y1)) else some (.inr y1))
noncomputable def apostilleref05_Trim_b2 (s : Str) (q4 : Int) (y5 : Int) : Option (Int ⊕ Int) :=
  (bif (decide (y5 > q4)) then (at' s (w64 (y5 - 1))).bind fun v6 => (apostilleref05_Blank v6).bind fun v7 => (bif v7 then some (.inl (w64 (y5 - 1))) else some (.inr y5)) else some (.inr y5))
noncomputable def apostilleref05_Trim (s : Str) : Option Str :=
  (iter (apostilleref05_Trim_b1 s) 0).bind (fun (q4 : Int) => (iter (apostilleref05_Trim_b2 s q4) (s.length : Int)).bind (fun (q8 : Int) => (sub' s q4 q8).bind fun v9 => some v9))
noncomputable def apostilleref16_None : Option TValue :=
  some (TValue.mk 2 [] false 0 true [])
noncomputable def apostilleref16_Read_b1 (v1 : Str) (y4 : Int × Int × Int × Int × Bool × Bool) : Option ((Int × Int × Int × Int × Bool × Bool) ⊕ ((Int × (List TPoint) × Bool × Int × Bool × Str) ⊕ (Int × Int × Int × Bool × Bool))) :=
  (bif (decide (y4.1 < (v1.length : Int))) then (at' v1 y4.1).bind fun v5 => (bif ((v5.toNat : Int) == 46) then some (.inl ((w64 (y4.1 + 1)), y4.2.1, y4.2.2.1, (w64 (y4.2.2.2.1 + 1)), y4.2.2.2.2.1, y4.2.2.2.2.2)) else ((bif (decide ((v5.toNat : Int) < 48)) then some true else some (decide ((v5.toNat : Int) > 57))) : Option (Bool)).bind (fun (q6 : Bool) => (bif q6 then (apostilleref16_None).bind fun v7 => some (.inr (Sum.inl (v7.Kind, v7.Set, v7.Bool_, v7.N, v7.NaN, v7.Text))) else (bif (decide (y4.2.2.2.1 > 0)) then (bif y4.2.2.2.2.1 then some (.inl ((w64 (y4.1 + 1)), y4.2.1, (w64 (y4.2.2.1 + 1)), y4.2.2.2.1, true, y4.2.2.2.2.2)) else some (.inl ((w64 (y4.1 + 1)), y4.2.1, (w64 (y4.2.2.1 + 1)), y4.2.2.2.1, ((v5.toNat : Int) != 48), y4.2.2.2.2.2))) else (bif (!y4.2.2.2.2.2) then some (.inl ((w64 (y4.1 + 1)), (w64 ((w64 (y4.2.1 * 10)) + (w64 ((v5 - 48).toNat : Int)))), (w64 (y4.2.2.1 + 1)), y4.2.2.2.1, y4.2.2.2.2.1, (decide ((w64 ((w64 (y4.2.1 * 10)) + (w64 ((v5 - 48).toNat : Int)))) > 9007199254740992)))) else some (.inl ((w64 (y4.1 + 1)), y4.2.1, (w64 (y4.2.2.1 + 1)), y4.2.2.2.1, y4.2.2.2.2.1, (decide (y4.2.1 > 9007199254740992))))))))) else some (.inr (Sum.inr (y4.2.1, y4.2.2.1, y4.2.2.2.1, y4.2.2.2.2.1, y4.2.2.2.2.2))))
noncomputable def apostilleref16_Read_b2 (v1 : Str) (y12 : Int × Int × Int × Int × Bool × Bool) : Option ((Int × Int × Int × Int × Bool × Bool) ⊕ ((Int × (List TPoint) × Bool × Int × Bool × Str) ⊕ (Int × Int × Int × Bool × Bool))) :=
  (bif (decide (y12.1 < (v1.length : Int))) then (at' v1 y12.1).bind fun v13 => (bif ((v13.toNat : Int) == 46) then some (.inl ((w64 (y12.1 + 1)), y12.2.1, y12.2.2.1, (w64 (y12.2.2.2.1 + 1)), y12.2.2.2.2.1, y12.2.2.2.2.2)) else ((bif (decide ((v13.toNat : Int) < 48)) then some true else some (decide ((v13.toNat : Int) > 57))) : Option (Bool)).bind (fun (q14 : Bool) => (bif q14 then (apostilleref16_None).bind fun v15 => some (.inr (Sum.inl (v15.Kind, v15.Set, v15.Bool_, v15.N, v15.NaN, v15.Text))) else (bif (decide (y12.2.2.2.1 > 0)) then (bif y12.2.2.2.2.1 then some (.inl ((w64 (y12.1 + 1)), y12.2.1, (w64 (y12.2.2.1 + 1)), y12.2.2.2.1, true, y12.2.2.2.2.2)) else some (.inl ((w64 (y12.1 + 1)), y12.2.1, (w64 (y12.2.2.1 + 1)), y12.2.2.2.1, ((v13.toNat : Int) != 48), y12.2.2.2.2.2))) else (bif (!y12.2.2.2.2.2) then some (.inl ((w64 (y12.1 + 1)), (w64 ((w64 (y12.2.1 * 10)) + (w64 ((v13 - 48).toNat : Int)))), (w64 (y12.2.2.1 + 1)), y12.2.2.2.1, y12.2.2.2.2.1, (decide ((w64 ((w64 (y12.2.1 * 10)) + (w64 ((v13 - 48).toNat : Int)))) > 9007199254740992)))) else some (.inl ((w64 (y12.1 + 1)), y12.2.1, (w64 (y12.2.2.1 + 1)), y12.2.2.2.1, y12.2.2.2.2.1, (decide (y12.2.1 > 9007199254740992))))))))) else some (.inr (Sum.inr (y12.2.1, y12.2.2.1, y12.2.2.2.1, y12.2.2.2.2.1, y12.2.2.2.2.2))))
noncomputable def apostilleref16_Read (s : Str) : Option (TValue × Int) :=
  (apostilleref05_Trim s).bind fun v1 => ((bif (!(v1 == [])) then (at' v1 0).bind fun v2 => some ((v2.toNat : Int) == 45) else some false) : Option (Bool)).bind (fun (q3 : Bool) => (bif q3 then (iter (apostilleref16_Read_b1 v1) (1, 0, 0, 0, false, false)).bind (Sum.elim (fun (q8 : Int × (List TPoint) × Bool × Int × Bool × Str) => some ((TValue.mk q8.1 q8.2.1 q8.2.2.1 q8.2.2.2.1 q8.2.2.2.2.1 q8.2.2.2.2.2), 0)) (fun (q9 : Int × Int × Int × Bool × Bool) => (bif (q9.2.1 == 0) then (apostilleref16_None).bind fun v10 => some (v10, 0) else (bif (decide (q9.2.2.1 > 1)) then (apostilleref16_None).bind fun v11 => some (v11, 0) else (bif q9.2.2.2.1 then some ((TValue.mk 0 [] false 0 false []), 6) else (bif q9.2.2.2.2 then some ((TValue.mk 0 [] false 0 false []), 6) else (bif q3 then some ((TValue.mk 2 [] false (w64 (0 - q9.1)) false []), 0) else some ((TValue.mk 2 [] false q9.1 false []), 0)))))))) else (iter (apostilleref16_Read_b2 v1) (0, 0, 0, 0, false, false)).bind (Sum.elim (fun (q16 : Int × (List TPoint) × Bool × Int × Bool × Str) => some ((TValue.mk q16.1 q16.2.1 q16.2.2.1 q16.2.2.2.1 q16.2.2.2.2.1 q16.2.2.2.2.2), 0)) (fun (q17 : Int × Int × Int × Bool × Bool) => (bif (q17.2.1 == 0) then (apostilleref16_None).bind fun v18 => some (v18, 0) else (bif (decide (q17.2.2.1 > 1)) then (apostilleref16_None).bind fun v19 => some (v19, 0) else (bif q17.2.2.2.1 then some ((TValue.mk 0 [] false 0 false []), 6) else (bif q17.2.2.2.2 then some ((TValue.mk 0 [] false 0 false []), 6) else (bif q3 then some ((TValue.mk 2 [] false (w64 (0 - q17.1)) false []), 0) else some ((TValue.mk 2 [] false q17.1 false []), 0))))))))))
noncomputable def apostilleref10_Same_b1 (a : (List TPoint)) (b : (List TPoint)) (y1 : Int) : Option (Int ⊕ (Unit ⊕ Unit)) :=
  (bif (decide (y1 < (a.length : Int))) then (at' a y1).bind fun v2 => (at' b y1).bind fun v3 => (bif (!(TPoint.eqb v2 v3)) then some (.inr (Sum.inl ())) else some (.inl (w64 (y1 + 1)))) else some (.inr (Sum.inr ())))
noncomputable def apostilleref10_Same (a : (List TPoint)) (b : (List TPoint)) : Option Bool :=
  (bif ((a.length : Int) != (b.length : Int)) then some false else (iter (apostilleref10_Same_b1 a b) 0).bind (Sum.elim (fun (q4 : Unit) => some false) (fun (q5 : Unit) => some true)))
noncomputable def apostilleref16_Same (a : TValue) (b : TValue) : Option Bool :=
  (bif (a.Kind == b.Kind) then (apostilleref10_Same a.Set b.Set).bind fun v1 => (bif v1 then (bif (a.Bool_ == b.Bool_) then (bif (a.N == b.N) then (bif (a.NaN == b.NaN) then some (a.Text == b.Text) else some false) else some false) else some false) else some false) else some false)
noncomputable def apostillelaw16_ValueReads (s : Str) : Option Bool :=
  ((apostillelaw16_awake).bind fun v1 => (bif (!v1) then some true else some (decide ((s.length : Int) > 400))) : Option (Bool)).bind (fun (q2 : Bool) => (bif q2 then (apostillelaw16_awake).bind fun v3 => some v3 else (value_Read s).bind fun v4 => (apostilleref16_Read s).bind fun v5 => (bif (v4.2 == v5.2) then (apostilleref16_Same v4.1 v5.1).bind fun v6 => some v6 else some false)))
noncomputable def slices_Clone_Point (s : (List TPoint)) : Option (List TPoint) :=
  (app 24 [] s).bind fun v2 => some v2
noncomputable def slices_SortFunc_Point (x : (List TPoint)) (cmp : (TPoint → TPoint → Option Int)) : Option (List TPoint) :=
  srt x cmp
noncomputable def cmp_isNaN_int (x : Int) : Option Bool :=
  some (x != x)
noncomputable def cmp_Compare_int (x : Int) (y_ : Int) : Option Int :=
  (cmp_isNaN_int x).bind fun v1 => (cmp_isNaN_int y_).bind fun v2 => (bif v1 then (bif v2 then some 0 else some (-1)) else (bif v2 then some 1 else (bif (decide (x < y_)) then some (-1) else (bif (decide (x > y_)) then some 1 else some 0))))
noncomputable def cmp_Or_int_b1 (vals : (List Int)) (y1 : Int) : Option (Int ⊕ (Int ⊕ Unit)) :=
  (bif (decide (y1 < (vals.length : Int))) then (at' vals y1).bind fun v2 => (bif (v2 != 0) then some (.inr (Sum.inl v2)) else some (.inl (w64 (y1 + 1)))) else some (.inr (Sum.inr ())))
noncomputable def cmp_Or_int (vals : (List Int)) : Option Int :=
  (iter (cmp_Or_int_b1 vals) 0).bind (Sum.elim (fun (q3 : Int) => some q3) (fun (q4 : Unit) => some 0))
noncomputable def point_Compare (a : TPoint) (b : TPoint) : Option Int :=
  (cmp_Compare_int a.N b.N).bind fun v1 => (cmp_Compare_int a.Part b.Part).bind fun v2 => (cmp_Compare_int a.I b.I).bind fun v3 => (cmp_Or_int [v1, v2, v3]).bind fun v4 => some v4
noncomputable def slices_Compact_Point_b2 (s : (List TPoint)) (y1 : Int) (y4 : Int × Int × (List TPoint)) : Option ((Int × Int × (List TPoint)) ⊕ (Int × (List TPoint))) :=
  (bif (decide (y4.2.1 < ((((s.length : Int).toNat - y1.toNat) : Nat) : Int))) then (atp y4.2.2 y1.toNat ((s.length : Int).toNat - y1.toNat) y4.2.1).bind fun v5 => (atp y4.2.2 y1.toNat ((s.length : Int).toNat - y1.toNat) (w64 (y4.2.1 - 1))).bind fun v6 => (bif (!(TPoint.eqb v5 v6)) then (atp y4.2.2 y1.toNat ((s.length : Int).toNat - y1.toNat) y4.2.1).bind fun v7 => (at' y4.2.2 y4.1).bind fun v8 => (put y4.2.2 y4.1 v7).bind fun v9 => some (.inl ((w64 (y4.1 + 1)), (w64 (y4.2.1 + 1)), v9)) else some (.inl (y4.1, (w64 (y4.2.1 + 1)), y4.2.2))) else some (.inr (y4.1, y4.2.2)))
noncomputable def slices_Compact_Point_b1 (s : (List TPoint)) (y1 : Int) : Option (Int ⊕ ((List TPoint) ⊕ Unit)) :=
  (bif (decide (y1 < (s.length : Int))) then (at' s y1).bind fun v2 => (at' s (w64 (y1 - 1))).bind fun v3 => (bif (TPoint.eqb v2 v3) then (rng (s.length : Int) y1 (s.length : Int)).bind fun _ => (iter (slices_Compact_Point_b2 s y1) (y1, 1, s)).bind (fun (q10 : Int × (List TPoint)) => (rng (q10.2.length : Int) q10.1 (q10.2.length : Int)).bind fun _ => (clr q10.2 q10.1.toNat ((q10.2.length : Int).toNat - q10.1.toNat) (TPoint.mk 0 0 0)).bind fun v11 => (rng (q10.2.length : Int) 0 q10.1).bind fun _ => (prt v11 0 q10.1.toNat).bind fun v12 => some (.inr (Sum.inl v12))) else some (.inl (w64 (y1 + 1)))) else some (.inr (Sum.inr ())))
noncomputable def slices_Compact_Point (s : (List TPoint)) : Option (List TPoint) :=
  (bif (decide ((s.length : Int) < 2)) then some s else (iter (slices_Compact_Point_b1 s) 1).bind (Sum.elim (fun (q13 : (List TPoint)) => some q13) (fun (q14 : Unit) => some s)))
noncomputable def nodes_Of (l : (List TPoint)) : Option (List TPoint) :=
  (slices_Clone_Point l).bind fun v1 => (slices_SortFunc_Point v1 (fun x0 x1 => point_Compare x0 x1)).bind fun v2 => (eqn v2.length v1.length).bind fun _ => (slices_Compact_Point v2).bind fun v3 => some v3
noncomputable def value_OfSet (l : (List TPoint)) : Option (Int × (List TPoint) × Bool × Int × Bool × Str) :=
  (nodes_Of l).bind fun v1 => some (0, v1, false, 0, false, [])
noncomputable def value_OfTruth (b : Bool) : Option TValue :=
  some (TValue.mk 1 [] b 0 false [])
noncomputable def value_OfText (s : Str) : Option TValue :=
  some (TValue.mk 3 [] false 0 false s)
noncomputable def apostilleref16_Number (n : Int) : Option (TValue × Int) :=
  (bif (decide (n > 9007199254740992)) then some ((TValue.mk 0 [] false 0 false []), 6) else (bif (decide (n < (-9007199254740992))) then some ((TValue.mk 0 [] false 0 false []), 6) else some ((TValue.mk 2 [] false n false []), 0)))
noncomputable def apostilleref10_Less (a : TPoint) (b : TPoint) : Option Bool :=
  (bif (a.N != b.N) then some (decide (a.N < b.N)) else (bif (a.Part != b.Part) then some (decide (a.Part < b.Part)) else some (decide (a.I < b.I))))
noncomputable def apostilleref11_Of_b2 (l : (List TPoint)) (y1 : Int × (List TPoint)) (y2 : Int) : Option (Int ⊕ Int) :=
  (bif (decide (y2 < (y1.2.length : Int))) then (at' y1.2 y2).bind fun v3 => (at' l y1.1).bind fun v4 => (apostilleref10_Less v3 v4).bind fun v5 => (bif v5 then some (.inl (w64 (y2 + 1))) else some (.inr y2)) else some (.inr y2))
noncomputable def apostilleref11_Of_b1 (l : (List TPoint)) (y1 : Int × (List TPoint)) : Option ((Int × (List TPoint)) ⊕ (List TPoint)) :=
  (bif (decide (y1.1 < (l.length : Int))) then (iter (apostilleref11_Of_b2 l y1) 0).bind (fun (q6 : Int) => (bif (decide (q6 < (y1.2.length : Int))) then (at' y1.2 q6).bind fun v7 => (at' l y1.1).bind fun v8 => (bif (TPoint.eqb v7 v8) then some (.inl ((w64 (y1.1 + 1)), y1.2)) else (rng (y1.2.length : Int) 0 q6).bind fun _ => (at' l y1.1).bind fun v9 => (rng (y1.2.length : Int) q6 (y1.2.length : Int)).bind fun _ => (appp 24 [] y1.2 0 q6.toNat).bind fun v10 => (app 24 v10 [v9]).bind fun v11 => (appp 24 v11 y1.2 q6.toNat ((y1.2.length : Int).toNat - q6.toNat)).bind fun v12 => some (.inl ((w64 (y1.1 + 1)), v12))) else (rng (y1.2.length : Int) 0 q6).bind fun _ => (at' l y1.1).bind fun v13 => (rng (y1.2.length : Int) q6 (y1.2.length : Int)).bind fun _ => (appp 24 [] y1.2 0 q6.toNat).bind fun v14 => (app 24 v14 [v13]).bind fun v15 => (appp 24 v15 y1.2 q6.toNat ((y1.2.length : Int).toNat - q6.toNat)).bind fun v16 => some (.inl ((w64 (y1.1 + 1)), v16)))) else some (.inr y1.2))
noncomputable def apostilleref11_Of (l : (List TPoint)) : Option (List TPoint) :=
  (iter (apostilleref11_Of_b1 l) (0, [])).bind (fun (q17 : (List TPoint)) => some q17)
noncomputable def apostillelaw16_ValueMakes (l : (List TPoint)) (n : Int) (s : Str) (b : Bool) : Option Bool :=
  ((apostillelaw16_awake).bind fun v1 => (bif (!v1) then some true else (bif (decide ((l.length : Int) > 40)) then some true else some (decide ((s.length : Int) > 200)))) : Option (Bool)).bind (fun (q2 : Bool) => (bif q2 then (apostillelaw16_awake).bind fun v3 => some v3 else (value_OfSet l).bind fun v4 => (value_OfTruth b).bind fun v5 => (value_OfText s).bind fun v6 => (value_OfNumber n).bind fun v7 => (apostilleref16_Number n).bind fun v8 => ((apostilleref16_Same v7.1 v8.1).bind fun v9 => (bif (!v9) then some true else (bif (v7.2 != v8.2) then some true else (value_None).bind fun v10 => (apostilleref16_None).bind fun v11 => (apostilleref16_Same v10 v11).bind fun v12 => some (!v12))) : Option (Bool)).bind (fun (q13 : Bool) => (bif q13 then some false else ((apostilleref11_Of l).bind fun v14 => (apostilleref16_Same (TValue.mk v4.1 v4.2.1 v4.2.2.1 v4.2.2.2.1 v4.2.2.2.2.1 v4.2.2.2.2.2) (TValue.mk 0 v14 false 0 false [])).bind fun v15 => (bif v15 then (apostilleref16_Same v5 (TValue.mk 1 [] b 0 false [])).bind fun v16 => (bif v16 then (apostilleref16_Same v6 (TValue.mk 3 [] false 0 false s)).bind fun v17 => some v17 else some false) else some false) : Option (Bool)).bind (fun (q18 : Bool) => (bif q18 then (value_Same (TValue.mk v4.1 v4.2.1 v4.2.2.1 v4.2.2.2.1 v4.2.2.2.2.1 v4.2.2.2.2.2) (TValue.mk v4.1 v4.2.1 v4.2.2.1 v4.2.2.2.1 v4.2.2.2.2.1 v4.2.2.2.2.2)).bind fun v19 => (bif v19 then (value_Same v5 v6).bind fun v20 => (bif (!v20) then (value_Same v7.1 (TValue.mk v4.1 v4.2.1 v4.2.2.1 v4.2.2.2.1 v4.2.2.2.2.1 v4.2.2.2.2.2)).bind fun v21 => (apostilleref16_Same v8.1 (TValue.mk v4.1 v4.2.1 v4.2.2.1 v4.2.2.2.1 v4.2.2.2.2.1 v4.2.2.2.2.2)).bind fun v22 => some ((!v21) == (!v22)) else some false) else some false) else some false))))))
noncomputable def strconv_FormatInt (i : Int) (base : Int) : Option Str :=
  bif decide (base = 10 ∧ -9223372036854775808 ≤ i ∧ i ≤ 9223372036854775807) then some (Go.Lib.itoa i) else none
noncomputable def value_AsText (d : (Option TDoc)) (v_ : TValue) : Option Str :=
  ((bif (v_.Kind == 0) then some (decide ((v_.Set.length : Int) > 0)) else some false) : Option (Bool)).bind (fun (q1 : Bool) => (bif q1 then none else ((bif (v_.Kind == 1) then some v_.Bool_ else some false) : Option (Bool)).bind (fun (q3 : Bool) => (bif q3 then some [116, 114, 117, 101] else (bif (v_.Kind == 1) then some [102, 97, 108, 115, 101] else (bif (v_.Kind == 2) then (bif v_.NaN then some [78, 97, 78] else (bif (v_.Kind == 2) then (strconv_FormatInt v_.N 10).bind fun v4 => some v4 else (bif (v_.Kind == 3) then some v_.Text else some []))) else (bif (v_.Kind == 2) then (strconv_FormatInt v_.N 10).bind fun v5 => some v5 else (bif (v_.Kind == 3) then some v_.Text else some []))))))))
noncomputable def apostillelaw16_ValueBack (n : Int) : Option Bool :=
  ((apostillelaw16_awake).bind fun v1 => (bif (!v1) then some true else (bif (decide (n > 9007199254740992)) then some true else some (decide (n < (-9007199254740992))))) : Option (Bool)).bind (fun (q2 : Bool) => (bif q2 then (apostillelaw16_awake).bind fun v3 => some v3 else (value_OfNumber n).bind fun v4 => (value_AsText none v4.1).bind fun v5 => (value_Read v5).bind fun v6 => (bif (v4.2 == 0) then (bif (v6.2 == 0) then (value_Same v4.1 v6.1).bind fun v7 => some v7 else some false) else some false)))
noncomputable def value_AsNumber (d : (Option TDoc)) (v_ : TValue) : Option (TValue × Int) :=
  (bif (v_.Kind == 2) then some (v_, 0) else ((bif (v_.Kind == 1) then some v_.Bool_ else some false) : Option (Bool)).bind (fun (q1 : Bool) => (bif q1 then (value_OfNumber 1).bind fun v2 => some (v2.1, v2.2) else (bif (v_.Kind == 1) then (value_OfNumber 0).bind fun v3 => some (v3.1, v3.2) else (bif (v_.Kind == 0) then (value_AsText d v_).bind fun v4 => (value_Read v4).bind fun v5 => some (v5.1, v5.2) else (bif (v_.Kind == 3) then (value_AsText d v_).bind fun v6 => (value_Read v6).bind fun v7 => some (v7.1, v7.2) else (value_None).bind fun v8 => some (v8, 0)))))))
noncomputable def value_AsTruth (v_ : TValue) : Option Bool :=
  (bif (v_.Kind == 0) then some (decide ((v_.Set.length : Int) > 0)) else (bif (v_.Kind == 1) then some v_.Bool_ else (bif (v_.Kind == 2) then (bif (v_.N != 0) then some (!v_.NaN) else some false) else (bif (v_.Kind == 3) then some (!(v_.Text == [])) else some false))))
noncomputable def apostillelaw16_ValueTexts (s : Str) (b : Bool) : Option Bool :=
  ((apostillelaw16_awake).bind fun v1 => (bif (!v1) then some true else some (decide ((s.length : Int) > 300))) : Option (Bool)).bind (fun (q2 : Bool) => (bif q2 then (apostillelaw16_awake).bind fun v3 => some v3 else (value_OfText s).bind fun v4 => (value_AsNumber none v4).bind fun v5 => (cat [32] s).bind fun v6 => (cat v6 [10]).bind fun v7 => (value_Read v7).bind fun v8 => (value_OfTruth b).bind fun v9 => (value_AsText none v9).bind fun v10 => (value_Read v10).bind fun v11 => (value_AsText none v4).bind fun v12 => (bif (v12 == s) then (bif (v5.2 == v8.2) then (value_Same v5.1 v8.1).bind fun v13 => (bif v13 then (bif (v11.2 == 0) then (value_None).bind fun v14 => (value_Same v11.1 v14).bind fun v15 => (bif v15 then (value_AsTruth v4).bind fun v16 => some (v16 == (!(s == []))) else some false) else some false) else some false) else some false) else some false)))
end G
