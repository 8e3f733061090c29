/-
  PLAIN FUNCTIONS with so many rounds. WRITTEN BY t_eval.py. No program, no memory. Conditions: none.
-/
import Derived.Test.YtipbfnjpfmmkfaaGreatDoorAbsM4
import Derived.Test.YtipbfnjpfmmkfaaGreatDoorOPure
set_option linter.unusedVariables false
set_option maxRecDepth 20000
namespace G
open W
noncomputable def utf8_Valid_b1_e (y2 : (List UInt8)) : Option ((List UInt8) ⊕ (Unit ⊕ Unit)) :=
  (bif (decide ((y2.length : Int) > 0)) then (at' y2 0).bind fun v3 => (bif (decide ((v3.toNat : Int) < 128)) then (sub' y2 1 (y2.length : Int)).bind fun v4 => ((bif (decide ((v4.length : Int) > 8)) then (utf8_word_byte v4).bind fun v5 => some ((v64 (band 64 v5 9259542123273814144)) == 0) else some false) : Option (Bool)).bind (fun (q6 : Bool) => (bif q6 then (sub' v4 8 (v4.length : Int)).bind fun v7 => ((bif (decide ((v7.length : Int) > 16)) then (sub' v7 8 (v7.length : Int)).bind fun v8 => (utf8_word_byte v7).bind fun v9 => (utf8_word_byte v8).bind fun v10 => some ((v64 (band 64 (v64 (bor 64 v9 v10)) 9259542123273814144)) == 0) else some false) : Option (Bool)).bind (fun (q11 : Bool) => (bif q11 then (sub' v7 16 (v7.length : Int)).bind fun v12 => (iterN (utf8_Valid_b2) 100000 v12).bind (fun (q22 : (List UInt8)) => some (.inl q22)) else some (.inl v7))) else some (.inl v4))) else (at' utf8First (v3.toNat : Int)).bind fun v23 => (at' utf8Ranges ((u8 ((v23.toNat : Int).fdiv (2 ^ 4))).toNat : Int)).bind fun v24 => (bif ((w64 ((u8 (band 8 (v23.toNat : Int) 7)).toNat : Int)) == 2) then (bif (decide ((y2.length : Int) < 2)) then some (.inr (Sum.inl ())) else (at' y2 1).bind fun v25 => (bif (decide ((v25.toNat : Int) < (v24.lo.toNat : Int))) then some (.inr (Sum.inl ())) else (at' y2 1).bind fun v26 => (bif (decide ((v24.hi.toNat : Int) < (v26.toNat : Int))) then some (.inr (Sum.inl ())) else (sub' y2 2 (y2.length : Int)).bind fun v27 => some (.inl v27)))) else (bif ((w64 ((u8 (band 8 (v23.toNat : Int) 7)).toNat : Int)) == 3) then (bif (decide ((y2.length : Int) < 3)) then some (.inr (Sum.inl ())) else (at' y2 1).bind fun v28 => (bif (decide ((v28.toNat : Int) < (v24.lo.toNat : Int))) then some (.inr (Sum.inl ())) else (at' y2 1).bind fun v29 => (bif (decide ((v24.hi.toNat : Int) < (v29.toNat : Int))) then some (.inr (Sum.inl ())) else (at' y2 2).bind fun v30 => (bif (decide ((v30.toNat : Int) < 128)) then some (.inr (Sum.inl ())) else (at' y2 2).bind fun v31 => (bif (decide (191 < (v31.toNat : Int))) then some (.inr (Sum.inl ())) else (sub' y2 3 (y2.length : Int)).bind fun v32 => some (.inl v32)))))) else (bif ((w64 ((u8 (band 8 (v23.toNat : Int) 7)).toNat : Int)) == 4) then (bif (decide ((y2.length : Int) < 4)) then some (.inr (Sum.inl ())) else (at' y2 1).bind fun v33 => (bif (decide ((v33.toNat : Int) < (v24.lo.toNat : Int))) then some (.inr (Sum.inl ())) else (at' y2 1).bind fun v34 => (bif (decide ((v24.hi.toNat : Int) < (v34.toNat : Int))) then some (.inr (Sum.inl ())) else (at' y2 2).bind fun v35 => (bif (decide ((v35.toNat : Int) < 128)) then some (.inr (Sum.inl ())) else (at' y2 2).bind fun v36 => (bif (decide (191 < (v36.toNat : Int))) then some (.inr (Sum.inl ())) else (at' y2 3).bind fun v37 => (bif (decide ((v37.toNat : Int) < 128)) then some (.inr (Sum.inl ())) else (at' y2 3).bind fun v38 => (bif (decide (191 < (v38.toNat : Int))) then some (.inr (Sum.inl ())) else (sub' y2 4 (y2.length : Int)).bind fun v39 => some (.inl v39)))))))) else some (.inr (Sum.inl ())))))) else some (.inr (Sum.inr ())))
theorem utf8_Valid_b1_le (y2 : (List UInt8)) : Le (utf8_Valid_b1_e y2) (utf8_Valid_b1 y2) := by
  unfold utf8_Valid_b1_e utf8_Valid_b1
  repeat' first | with_reducible refine Le.iter (fun _ => ?_) _ _ | with_reducible refine Le.bind ?_ ?_ | with_reducible refine Le.sum ?_ ?_ | with_reducible refine Le.sum ?_ ?_ _ | with_reducible refine Le.bif _ ?_ ?_ | with_reducible exact Le.refl _ | intro _
noncomputable def utf8_Valid_e (p : (List UInt8)) : Option Bool :=
  (sub3 p 0 (p.length : Int) (p.length : Int)).bind fun v1 => (iterN (utf8_Valid_b1_e) 100000 v1).bind (Sum.elim (fun (q40 : Unit) => some false) (fun (q41 : Unit) => some true))
theorem utf8_Valid_le (p : (List UInt8)) : Le (utf8_Valid_e p) (utf8_Valid p) := by
  unfold utf8_Valid_e utf8_Valid
  repeat' first | apply utf8_Valid_b1_le | with_reducible refine Le.iter (fun _ => ?_) _ _ | with_reducible refine Le.bind ?_ ?_ | with_reducible refine Le.sum ?_ ?_ | with_reducible refine Le.sum ?_ ?_ _ | with_reducible refine Le.bif _ ?_ ?_ | with_reducible exact Le.refl _ | intro _
noncomputable def utf_Valid_e (b : (List UInt8)) : Option Bool :=
  (utf8_Valid_e b).bind fun v1 => some v1
theorem utf_Valid_le (b : (List UInt8)) : Le (utf_Valid_e b) (utf_Valid b) := by
  unfold utf_Valid_e utf_Valid
  repeat' first | apply utf8_Valid_le | with_reducible refine Le.iter (fun _ => ?_) _ _ | with_reducible refine Le.bind ?_ ?_ | with_reducible refine Le.sum ?_ ?_ | with_reducible refine Le.sum ?_ ?_ _ | with_reducible refine Le.bif _ ?_ ?_ | with_reducible exact Le.refl _ | intro _
noncomputable def utf8_DecodeRune_e (p : (List UInt8)) : Option (Int × Int) :=
  (iterN (utf8_DecodeRune_b1 p) 100000 ()).bind (Sum.elim (fun (q3 : Int) => some (q3, 1)) (fun (q4 : Unit) => none))
theorem utf8_DecodeRune_le (p : (List UInt8)) : Le (utf8_DecodeRune_e p) (utf8_DecodeRune p) := by
  unfold utf8_DecodeRune_e utf8_DecodeRune
  repeat' first | with_reducible refine Le.iter (fun _ => ?_) _ _ | with_reducible refine Le.bind ?_ ?_ | with_reducible refine Le.sum ?_ ?_ | with_reducible refine Le.sum ?_ ?_ _ | with_reducible refine Le.bif _ ?_ ?_ | with_reducible exact Le.refl _ | intro _
noncomputable def utf_Chars_b1_e (b : (List UInt8)) (y2 : Int × (List Int)) : Option ((Int × (List Int)) ⊕ (List Int)) :=
  (bif (decide (y2.1 < (b.length : Int))) then (sub' b y2.1 (b.length : Int)).bind fun v3 => (utf8_DecodeRune_e v3).bind fun v4 => (app 4 y2.2 [v4.1]).bind fun v5 => some (.inl ((w64 (y2.1 + v4.2)), v5)) else some (.inr y2.2))
theorem utf_Chars_b1_le (b : (List UInt8)) (y2 : Int × (List Int)) : Le (utf_Chars_b1_e b y2) (utf_Chars_b1 b y2) := by
  unfold utf_Chars_b1_e utf_Chars_b1
  repeat' first | apply utf8_DecodeRune_le | with_reducible refine Le.iter (fun _ => ?_) _ _ | with_reducible refine Le.bind ?_ ?_ | with_reducible refine Le.sum ?_ ?_ | with_reducible refine Le.sum ?_ ?_ _ | with_reducible refine Le.bif _ ?_ ?_ | with_reducible exact Le.refl _ | intro _
noncomputable def utf_Chars_e (b : (List UInt8)) : Option ((List Int) × Bool) :=
  (utf_Valid_e b).bind fun v1 => (bif (!v1) then some ([], false) else (iterN (utf_Chars_b1_e b) 100000 (0, [])).bind (fun (q6 : (List Int)) => some (q6, true)))
theorem utf_Chars_le (b : (List UInt8)) : Le (utf_Chars_e b) (utf_Chars b) := by
  unfold utf_Chars_e utf_Chars
  repeat' first | apply utf_Chars_b1_le | apply utf_Valid_le | with_reducible refine Le.iter (fun _ => ?_) _ _ | with_reducible refine Le.bind ?_ ?_ | with_reducible refine Le.sum ?_ ?_ | with_reducible refine Le.sum ?_ ?_ _ | with_reducible refine Le.bif _ ?_ ?_ | with_reducible exact Le.refl _ | intro _
noncomputable def utf_Xml_e (r_ : Int) : Option Bool :=
  ((bif (r_ == 9) then (bif (r_ == 9) then some (Sum.inl ()) else some (Sum.inr ())) else (bif (r_ == 10) then (bif (r_ == 10) then some (Sum.inl ()) else some (Sum.inr ())) else (bif (r_ == 13) then some (Sum.inl ()) else some (Sum.inr ())))) : Option (Unit ⊕ Unit)).bind (Sum.elim (fun (q1 : Unit) => some true) (fun (q2 : Unit) => (bif (decide (r_ ≥ 32)) then (bif (decide (r_ ≤ 55295)) then some true else (bif (decide (r_ ≥ 57344)) then (bif (decide (r_ ≤ 65533)) then some true else (bif (decide (r_ ≥ 65536)) then some (decide (r_ ≤ 1114111)) else some false)) else (bif (decide (r_ ≥ 65536)) then some (decide (r_ ≤ 1114111)) else some false))) else (bif (decide (r_ ≥ 57344)) then (bif (decide (r_ ≤ 65533)) then some true else (bif (decide (r_ ≥ 65536)) then some (decide (r_ ≤ 1114111)) else some false)) else (bif (decide (r_ ≥ 65536)) then some (decide (r_ ≤ 1114111)) else some false)))))
theorem utf_Xml_le (r_ : Int) : Le (utf_Xml_e r_) (utf_Xml r_) := by
  unfold utf_Xml_e utf_Xml
  repeat' first | with_reducible refine Le.iter (fun _ => ?_) _ _ | with_reducible refine Le.bind ?_ ?_ | with_reducible refine Le.sum ?_ ?_ | with_reducible refine Le.sum ?_ ?_ _ | with_reducible refine Le.bif _ ?_ ?_ | with_reducible exact Le.refl _ | intro _
noncomputable def utf_Text_b1_e (v1 : (List Int) × Bool) (y2 : Bool × Int) : Option ((Bool × Int) ⊕ Bool) :=
  (bif (decide (y2.2 < (v1.1.length : Int))) then (at' v1.1 y2.2).bind fun v3 => (bif y2.1 then (utf_Xml_e v3).bind fun v4 => some (.inl (v4, (w64 (y2.2 + 1)))) else some (.inl (false, (w64 (y2.2 + 1))))) else some (.inr y2.1))
theorem utf_Text_b1_le (v1 : (List Int) × Bool) (y2 : Bool × Int) : Le (utf_Text_b1_e v1 y2) (utf_Text_b1 v1 y2) := by
  unfold utf_Text_b1_e utf_Text_b1
  repeat' first | apply utf_Xml_le | with_reducible refine Le.iter (fun _ => ?_) _ _ | with_reducible refine Le.bind ?_ ?_ | with_reducible refine Le.sum ?_ ?_ | with_reducible refine Le.sum ?_ ?_ _ | with_reducible refine Le.bif _ ?_ ?_ | with_reducible exact Le.refl _ | intro _
noncomputable def utf_Text_e (b : (List UInt8)) : Option Bool :=
  (utf_Chars_e b).bind fun v1 => (iterN (utf_Text_b1_e v1) 100000 (v1.2, 0)).bind (fun (q5 : Bool) => some q5)
theorem utf_Text_le (b : (List UInt8)) : Le (utf_Text_e b) (utf_Text b) := by
  unfold utf_Text_e utf_Text
  repeat' first | apply utf_Chars_le | apply utf_Text_b1_le | with_reducible refine Le.iter (fun _ => ?_) _ _ | with_reducible refine Le.bind ?_ ?_ | with_reducible refine Le.sum ?_ ?_ | with_reducible refine Le.sum ?_ ?_ _ | with_reducible refine Le.bif _ ?_ ?_ | with_reducible exact Le.refl _ | intro _
noncomputable def strings_Replace_e (s : Str) (old : Str) (new : Str) (n : Int) : Option Str :=
  ((bif (old == new) then some true else some (n == 0)) : Option (Bool)).bind (fun (q1 : Bool) => (bif q1 then some s else (strings_Count s old).bind fun v2 => (bif (v2 == 0) then some s else ((bif (decide (n < 0)) then some true else some (decide (v2 < n))) : Option (Bool)).bind (fun (q3 : Bool) => (bif q3 then (strings_Builder_Grow_s1 (w64 ((s.length : Int) + (w64 (v2 * (w64 ((new.length : Int) - (old.length : Int))))))) true).bind fun v4 => (bif (decide ((old.length : Int) > 0)) then (iterN (strings_Replace_b1 s old new v2) 100000 (0, 0, [])).bind (fun (q11 : Int × (List UInt8)) => (sub' s q11.1 (s.length : Int)).bind fun v12 => (strings_Builder_WriteString_s4 v12 false q11.2).bind fun v13 => (strings_Builder_String_s6 false v13.2).bind fun v14 => some v14) else (strings_Builder_WriteString_s4 new false []).bind fun v15 => (iterN (strings_Replace_b2 s new v2) 100000 (0, 0, v15.2)).bind (fun (q22 : Int × (List UInt8)) => (sub' s q22.1 (s.length : Int)).bind fun v23 => (strings_Builder_WriteString_s4 v23 false q22.2).bind fun v24 => (strings_Builder_String_s6 false v24.2).bind fun v25 => some v25)) else (strings_Builder_Grow_s1 (w64 ((s.length : Int) + (w64 (n * (w64 ((new.length : Int) - (old.length : Int))))))) true).bind fun v26 => (bif (decide ((old.length : Int) > 0)) then (iterN (strings_Replace_b3 s old new n) 100000 (0, 0, [])).bind (fun (q33 : Int × (List UInt8)) => (sub' s q33.1 (s.length : Int)).bind fun v34 => (strings_Builder_WriteString_s4 v34 false q33.2).bind fun v35 => (strings_Builder_String_s6 false v35.2).bind fun v36 => some v36) else (strings_Builder_WriteString_s4 new false []).bind fun v37 => (iterN (strings_Replace_b4 s new n) 100000 (0, 0, v37.2)).bind (fun (q44 : Int × (List UInt8)) => (sub' s q44.1 (s.length : Int)).bind fun v45 => (strings_Builder_WriteString_s4 v45 false q44.2).bind fun v46 => (strings_Builder_String_s6 false v46.2).bind fun v47 => some v47)))))))
theorem strings_Replace_le (s : Str) (old : Str) (new : Str) (n : Int) : Le (strings_Replace_e s old new n) (strings_Replace s old new n) := by
  unfold strings_Replace_e strings_Replace
  repeat' first | with_reducible refine Le.iter (fun _ => ?_) _ _ | with_reducible refine Le.bind ?_ ?_ | with_reducible refine Le.sum ?_ ?_ | with_reducible refine Le.sum ?_ ?_ _ | with_reducible refine Le.bif _ ?_ ?_ | with_reducible exact Le.refl _ | intro _
noncomputable def strings_ReplaceAll_e (s : Str) (old : Str) (new : Str) : Option Str :=
  (strings_Replace_e s old new (-1)).bind fun v1 => some v1
theorem strings_ReplaceAll_le (s : Str) (old : Str) (new : Str) : Le (strings_ReplaceAll_e s old new) (strings_ReplaceAll s old new) := by
  unfold strings_ReplaceAll_e strings_ReplaceAll
  repeat' first | apply strings_Replace_le | with_reducible refine Le.iter (fun _ => ?_) _ _ | with_reducible refine Le.bind ?_ ?_ | with_reducible refine Le.sum ?_ ?_ | with_reducible refine Le.sum ?_ ?_ _ | with_reducible refine Le.bif _ ?_ ?_ | with_reducible exact Le.refl _ | intro _
noncomputable def chars_Lines_e (s : Str) : Option Str :=
  (strings_ReplaceAll_e s [13, 10] [10]).bind fun v1 => (strings_ReplaceAll_e v1 [13] [10]).bind fun v2 => some v2
theorem chars_Lines_le (s : Str) : Le (chars_Lines_e s) (chars_Lines s) := by
  unfold chars_Lines_e chars_Lines
  repeat' first | apply strings_ReplaceAll_le | with_reducible refine Le.iter (fun _ => ?_) _ _ | with_reducible refine Le.bind ?_ ?_ | with_reducible refine Le.sum ?_ ?_ | with_reducible refine Le.sum ?_ ?_ _ | with_reducible refine Le.bif _ ?_ ?_ | with_reducible exact Le.refl _ | intro _
noncomputable def name_in_e (r_ : Int) (l : (List TSpan)) : Option Bool :=
  (iterN (name_in_b1 r_ l) 100000 0).bind (Sum.elim (fun (q3 : Unit) => some true) (fun (q4 : Unit) => some false))
theorem name_in_le (r_ : Int) (l : (List TSpan)) : Le (name_in_e r_ l) (name_in r_ l) := by
  unfold name_in_e name_in
  repeat' first | with_reducible refine Le.iter (fun _ => ?_) _ _ | with_reducible refine Le.bind ?_ ?_ | with_reducible refine Le.sum ?_ ?_ | with_reducible refine Le.sum ?_ ?_ _ | with_reducible refine Le.bif _ ?_ ?_ | with_reducible exact Le.refl _ | intro _
noncomputable def name_Begins_e (r_ : Int) : Option Bool :=
  (bif (r_ == 95) then some true else (name_in_e r_ [(TSpan.mk 65 90), (TSpan.mk 97 122), (TSpan.mk 192 214), (TSpan.mk 216 246), (TSpan.mk 248 767), (TSpan.mk 880 893), (TSpan.mk 895 8191), (TSpan.mk 8204 8205), (TSpan.mk 8304 8591), (TSpan.mk 11264 12271), (TSpan.mk 12289 55295), (TSpan.mk 63744 64975), (TSpan.mk 65008 65533), (TSpan.mk 65536 983039)]).bind fun v1 => some v1)
theorem name_Begins_le (r_ : Int) : Le (name_Begins_e r_) (name_Begins r_) := by
  unfold name_Begins_e name_Begins
  repeat' first | apply name_in_le | with_reducible refine Le.iter (fun _ => ?_) _ _ | with_reducible refine Le.bind ?_ ?_ | with_reducible refine Le.sum ?_ ?_ | with_reducible refine Le.sum ?_ ?_ _ | with_reducible refine Le.bif _ ?_ ?_ | with_reducible exact Le.refl _ | intro _
noncomputable def name_Stands_e (r_ : Int) : Option Bool :=
  (name_Begins_e r_).bind fun v1 => (bif v1 then some true else (bif (r_ == 45) then some true else (bif (r_ == 46) then some true else (bif (r_ == 183) then some true else (name_in_e r_ [(TSpan.mk 48 57), (TSpan.mk 768 879), (TSpan.mk 8255 8256)]).bind fun v2 => some v2))))
theorem name_Stands_le (r_ : Int) : Le (name_Stands_e r_) (name_Stands r_) := by
  unfold name_Stands_e name_Stands
  repeat' first | apply name_Begins_le | apply name_in_le | with_reducible refine Le.iter (fun _ => ?_) _ _ | with_reducible refine Le.bind ?_ ?_ | with_reducible refine Le.sum ?_ ?_ | with_reducible refine Le.sum ?_ ?_ _ | with_reducible refine Le.bif _ ?_ ?_ | with_reducible exact Le.refl _ | intro _
noncomputable def name_Is_b1_e (v1 : (List Int) × Bool) (y4 : Int) : Option (Int ⊕ (Unit ⊕ Unit)) :=
  (bif (decide (y4 < (v1.1.length : Int))) then (at' v1.1 y4).bind fun v5 => (name_Stands_e v5).bind fun v6 => (bif (!v6) then some (.inr (Sum.inl ())) else some (.inl (w64 (y4 + 1)))) else some (.inr (Sum.inr ())))
theorem name_Is_b1_le (v1 : (List Int) × Bool) (y4 : Int) : Le (name_Is_b1_e v1 y4) (name_Is_b1 v1 y4) := by
  unfold name_Is_b1_e name_Is_b1
  repeat' first | apply name_Stands_le | with_reducible refine Le.iter (fun _ => ?_) _ _ | with_reducible refine Le.bind ?_ ?_ | with_reducible refine Le.sum ?_ ?_ | with_reducible refine Le.sum ?_ ?_ _ | with_reducible refine Le.bif _ ?_ ?_ | with_reducible exact Le.refl _ | intro _
noncomputable def name_Is_e (s : Str) : Option Bool :=
  (utf_Chars_e s).bind fun v1 => (bif (!v1.2) then some false else (bif ((v1.1.length : Int) == 0) then some false else (at' v1.1 0).bind fun v2 => (name_Begins_e v2).bind fun v3 => (bif (!v3) then some false else (iterN (name_Is_b1_e v1) 100000 0).bind (Sum.elim (fun (q7 : Unit) => some false) (fun (q8 : Unit) => some true)))))
theorem name_Is_le (s : Str) : Le (name_Is_e s) (name_Is s) := by
  unfold name_Is_e name_Is
  repeat' first | apply name_Begins_le | apply name_Is_b1_le | apply utf_Chars_le | with_reducible refine Le.iter (fun _ => ?_) _ _ | with_reducible refine Le.bind ?_ ?_ | with_reducible refine Le.sum ?_ ?_ | with_reducible refine Le.sum ?_ ?_ _ | with_reducible refine Le.bif _ ?_ ?_ | with_reducible exact Le.refl _ | intro _
noncomputable def name_Split_e (s : Str) : Option (Str × Str × Bool) :=
  (strings_Cut s [58]).bind fun v1 => (bif (!v1.2.2) then (bif v1.2.2 then (name_Is_e []).bind fun v2 => (bif (!v2) then some ([], [], false) else (name_Is_e s).bind fun v3 => (bif (!v3) then some ([], [], false) else some ([], s, true))) else (name_Is_e s).bind fun v4 => (bif (!v4) then some ([], [], false) else some ([], s, true))) else (bif v1.2.2 then (name_Is_e v1.1).bind fun v5 => (bif (!v5) then some ([], [], false) else (name_Is_e v1.2.1).bind fun v6 => (bif (!v6) then some ([], [], false) else some (v1.1, v1.2.1, true))) else (name_Is_e v1.2.1).bind fun v7 => (bif (!v7) then some ([], [], false) else some (v1.1, v1.2.1, true))))
theorem name_Split_le (s : Str) : Le (name_Split_e s) (name_Split s) := by
  unfold name_Split_e name_Split
  repeat' first | apply name_Is_le | with_reducible refine Le.iter (fun _ => ?_) _ _ | with_reducible refine Le.bind ?_ ?_ | with_reducible refine Le.sum ?_ ?_ | with_reducible refine Le.sum ?_ ?_ _ | with_reducible refine Le.bif _ ?_ ?_ | with_reducible exact Le.refl _ | intro _
noncomputable def strings_Replacer_build_s17_e (u1 : (List Str)) : Option (List UInt8) :=
  ((bif ((u1.length : Int) == 2) then (at' u1 0).bind fun v1 => some (decide ((v1.length : Int) > 1)) else some false) : Option (Bool)).bind (fun (q2 : Bool) => (bif q2 then none else (iterN (strings_Replacer_build_s17_b1 u1) 100000 (true, 0)).bind (fun (q8 : Bool) => (bif q8 then (iterN (strings_Replacer_build_s17_b2) 100000 (0, (List.replicate 256 0))).bind (fun (q12 : (List UInt8)) => (iterN (strings_Replacer_build_s17_b3 u1) 100000 ((w64 ((u1.length : Int) - 2)), q12)).bind (fun (q20 : (List UInt8)) => some q20)) else none))))
theorem strings_Replacer_build_s17_le (u1 : (List Str)) : Le (strings_Replacer_build_s17_e u1) (strings_Replacer_build_s17 u1) := by
  unfold strings_Replacer_build_s17_e strings_Replacer_build_s17
  repeat' first | with_reducible refine Le.iter (fun _ => ?_) _ _ | with_reducible refine Le.bind ?_ ?_ | with_reducible refine Le.sum ?_ ?_ | with_reducible refine Le.sum ?_ ?_ _ | with_reducible refine Le.bif _ ?_ ?_ | with_reducible exact Le.refl _ | intro _
noncomputable def strings_Replacer_buildOnce_s16_e (u1 : (List Str)) : Option (List UInt8) :=
  (strings_Replacer_build_s17_e u1).bind fun v1 => some v1
theorem strings_Replacer_buildOnce_s16_le (u1 : (List Str)) : Le (strings_Replacer_buildOnce_s16_e u1) (strings_Replacer_buildOnce_s16 u1) := by
  unfold strings_Replacer_buildOnce_s16_e strings_Replacer_buildOnce_s16
  repeat' first | apply strings_Replacer_build_s17_le | with_reducible refine Le.iter (fun _ => ?_) _ _ | with_reducible refine Le.bind ?_ ?_ | with_reducible refine Le.sum ?_ ?_ | with_reducible refine Le.sum ?_ ?_ _ | with_reducible refine Le.bif _ ?_ ?_ | with_reducible exact Le.refl _ | intro _
noncomputable def sync_Once_doSlow_s12_e (u1 : (List Str)) : Option (List UInt8) :=
  (sync_Mutex_Lock_2_s13 u1).bind fun v1 => (atomic_Bool_Load_s15 u1).bind fun v2 => (strings_Replacer_buildOnce_s16_e u1).bind fun v3 => (atomic_Bool_Store_s18 v3).bind fun v4 => (sync_Mutex_Unlock_2_s19 v3).bind fun v5 => some v3
theorem sync_Once_doSlow_s12_le (u1 : (List Str)) : Le (sync_Once_doSlow_s12_e u1) (sync_Once_doSlow_s12 u1) := by
  unfold sync_Once_doSlow_s12_e sync_Once_doSlow_s12
  repeat' first | apply strings_Replacer_buildOnce_s16_le | with_reducible refine Le.iter (fun _ => ?_) _ _ | with_reducible refine Le.bind ?_ ?_ | with_reducible refine Le.sum ?_ ?_ | with_reducible refine Le.sum ?_ ?_ _ | with_reducible refine Le.bif _ ?_ ?_ | with_reducible exact Le.refl _ | intro _
noncomputable def sync_Once_Do_s10_e (u1 : (List Str)) : Option (List UInt8) :=
  (atomic_Bool_Load_s11 u1).bind fun v1 => (sync_Once_doSlow_s12_e u1).bind fun v2 => some v2
theorem sync_Once_Do_s10_le (u1 : (List Str)) : Le (sync_Once_Do_s10_e u1) (sync_Once_Do_s10 u1) := by
  unfold sync_Once_Do_s10_e sync_Once_Do_s10
  repeat' first | apply sync_Once_doSlow_s12_le | with_reducible refine Le.iter (fun _ => ?_) _ _ | with_reducible refine Le.bind ?_ ?_ | with_reducible refine Le.sum ?_ ?_ | with_reducible refine Le.sum ?_ ?_ _ | with_reducible refine Le.bif _ ?_ ?_ | with_reducible exact Le.refl _ | intro _
noncomputable def strings_byteReplacer_Replace_s21_b1_e (u1 : Str) (u2 : (List UInt8)) (y1 : Int ⊕ (Int × (List UInt8))) : Option ((Int ⊕ (Int × (List UInt8))) ⊕ (Unit ⊕ (List UInt8))) :=
  (Sum.elim (fun (y1 : Int) => (bif (decide (y1 < (u1.length : Int))) then (at' u1 y1).bind fun v2 => (atA 256 u2 (v2.toNat : Int)).bind fun v3 => (bif ((v3.toNat : Int) != (v2.toNat : Int)) then (atA 256 u2 (v2.toNat : Int)).bind fun v4 => (at' u1 y1).bind fun v5 => (put u1 y1 v4).bind fun v6 => some (.inl (Sum.inr ((w64 (y1 + 1)), v6))) else some (.inl (Sum.inl (w64 (y1 + 1))))) else some (.inr (Sum.inl ())))) (fun (y1 : Int × (List UInt8)) => (bif (decide (y1.1 < (u1.length : Int))) then (at' u1 y1.1).bind fun v7 => (atA 256 u2 (v7.toNat : Int)).bind fun v8 => (bif ((v8.toNat : Int) != (v7.toNat : Int)) then (ne0 y1.2).bind fun v9 => (atA 256 u2 (v7.toNat : Int)).bind fun v10 => (at' y1.2 y1.1).bind fun v11 => (put y1.2 y1.1 v10).bind fun v12 => some (.inl (Sum.inr ((w64 (y1.1 + 1)), v12))) else some (.inl (Sum.inr ((w64 (y1.1 + 1)), y1.2)))) else some (.inr (Sum.inr y1.2))))) y1
theorem strings_byteReplacer_Replace_s21_b1_le (u1 : Str) (u2 : (List UInt8)) (y1 : Int ⊕ (Int × (List UInt8))) : Le (strings_byteReplacer_Replace_s21_b1_e u1 u2 y1) (strings_byteReplacer_Replace_s21_b1 u1 u2 y1) := by
  unfold strings_byteReplacer_Replace_s21_b1_e strings_byteReplacer_Replace_s21_b1
  repeat' first | with_reducible refine Le.iter (fun _ => ?_) _ _ | with_reducible refine Le.bind ?_ ?_ | with_reducible refine Le.sum ?_ ?_ | with_reducible refine Le.sum ?_ ?_ _ | with_reducible refine Le.bif _ ?_ ?_ | with_reducible exact Le.refl _ | intro _
noncomputable def strings_byteReplacer_Replace_s21_e (u1 : Str) (u2 : (List UInt8)) : Option Str :=
  (iterN (strings_byteReplacer_Replace_s21_b1_e u1 u2) 100000 (Sum.inl 0)).bind (Sum.elim (fun (q13 : Unit) => some u1) (fun (q14 : (List UInt8)) => (ne0 q14).bind fun v15 => some q14))
theorem strings_byteReplacer_Replace_s21_le (u1 : Str) (u2 : (List UInt8)) : Le (strings_byteReplacer_Replace_s21_e u1 u2) (strings_byteReplacer_Replace_s21 u1 u2) := by
  unfold strings_byteReplacer_Replace_s21_e strings_byteReplacer_Replace_s21
  repeat' first | apply strings_byteReplacer_Replace_s21_b1_le | with_reducible refine Le.iter (fun _ => ?_) _ _ | with_reducible refine Le.bind ?_ ?_ | with_reducible refine Le.sum ?_ ?_ | with_reducible refine Le.sum ?_ ?_ _ | with_reducible refine Le.bif _ ?_ ?_ | with_reducible exact Le.refl _ | intro _
noncomputable def strings_Replacer_Replace_s9_e (u1 : Str) (u2 : (List Str)) : Option (Str × (List UInt8)) :=
  (sync_Once_Do_s10_e u2).bind fun v1 => (strings_byteReplacer_Replace_s21_e u1 v1).bind fun v2 => some (v2, v1)
theorem strings_Replacer_Replace_s9_le (u1 : Str) (u2 : (List Str)) : Le (strings_Replacer_Replace_s9_e u1 u2) (strings_Replacer_Replace_s9 u1 u2) := by
  unfold strings_Replacer_Replace_s9_e strings_Replacer_Replace_s9
  repeat' first | apply strings_byteReplacer_Replace_s21_le | apply sync_Once_Do_s10_le | with_reducible refine Le.iter (fun _ => ?_) _ _ | with_reducible refine Le.bind ?_ ?_ | with_reducible refine Le.sum ?_ ?_ | with_reducible refine Le.sum ?_ ?_ _ | with_reducible refine Le.bif _ ?_ ?_ | with_reducible exact Le.refl _ | intro _
noncomputable def chars_expand_s8_b1_e (u1 : Str) (u2 : (List Str)) (y4 : Unit) : Option (Unit ⊕ (Str × (List UInt8))) :=
  (strings_Cut u1 [38]).bind fun v5 => (strings_Replacer_Replace_s9_e v5.1 u2).bind fun v6 => (strings_Builder_WriteString_s4 v6.1 true []).bind fun v7 => (bif (!v5.2.2) then (strings_Builder_String_s6 false v7.2).bind fun v8 => some (.inr (v8, v6.2)) else none)
theorem chars_expand_s8_b1_le (u1 : Str) (u2 : (List Str)) (y4 : Unit) : Le (chars_expand_s8_b1_e u1 u2 y4) (chars_expand_s8_b1 u1 u2 y4) := by
  unfold chars_expand_s8_b1_e chars_expand_s8_b1
  repeat' first | apply strings_Replacer_Replace_s9_le | with_reducible refine Le.iter (fun _ => ?_) _ _ | with_reducible refine Le.bind ?_ ?_ | with_reducible refine Le.sum ?_ ?_ | with_reducible refine Le.sum ?_ ?_ _ | with_reducible refine Le.bif _ ?_ ?_ | with_reducible exact Le.refl _ | intro _
noncomputable def chars_expand_s8_e (u1 : Str) (u2 : (List Str)) : Option (Str × Bool) :=
  ((utf_Text_e u1).bind fun v1 => (bif (!v1) then some true else (strings_Contains u1 [60]).bind fun v2 => some v2) : Option (Bool)).bind (fun (q3 : Bool) => (bif q3 then some ([], false) else (iterN (chars_expand_s8_b1_e u1 u2) 100000 ()).bind (fun (q10 : Str × (List UInt8)) => some (q10.1, true))))
theorem chars_expand_s8_le (u1 : Str) (u2 : (List Str)) : Le (chars_expand_s8_e u1 u2) (chars_expand_s8 u1 u2) := by
  unfold chars_expand_s8_e chars_expand_s8
  repeat' first | apply chars_expand_s8_b1_le | apply utf_Text_le | with_reducible refine Le.iter (fun _ => ?_) _ _ | with_reducible refine Le.bind ?_ ?_ | with_reducible refine Le.sum ?_ ?_ | with_reducible refine Le.sum ?_ ?_ _ | with_reducible refine Le.bif _ ?_ ?_ | with_reducible exact Le.refl _ | intro _
noncomputable def chars_Value_e (s : Str) : Option (Str × Bool) :=
  (strings_NewReplacer_s7 [[9], [32], [10], [32], [13], [32]]).bind fun v1 => (chars_expand_s8_e s v1).bind fun v2 => some (v2.1, v2.2)
theorem chars_Value_le (s : Str) : Le (chars_Value_e s) (chars_Value s) := by
  unfold chars_Value_e chars_Value
  repeat' first | apply chars_expand_s8_le | with_reducible refine Le.iter (fun _ => ?_) _ _ | with_reducible refine Le.bind ?_ ?_ | with_reducible refine Le.sum ?_ ?_ | with_reducible refine Le.sum ?_ ?_ _ | with_reducible refine Le.bif _ ?_ ?_ | with_reducible exact Le.refl _ | intro _
noncomputable def doc_stands_e (l : (List TNode)) (n : Int) : Option Bool :=
  (iterN (doc_stands_b1 l n) 100000 (w64 (n - 1))).bind (Sum.elim (fun (q6 : Bool) => some q6) (fun (q7 : Unit) => some false))
theorem doc_stands_le (l : (List TNode)) (n : Int) : Le (doc_stands_e l n) (doc_stands l n) := by
  unfold doc_stands_e doc_stands
  repeat' first | with_reducible refine Le.iter (fun _ => ?_) _ _ | with_reducible refine Le.bind ?_ ?_ | with_reducible refine Le.sum ?_ ?_ | with_reducible refine Le.sum ?_ ?_ _ | with_reducible refine Le.bif _ ?_ ?_ | with_reducible exact Le.refl _ | intro _
noncomputable def slices_IndexFunc_Decl_b1_e (s : (List TDecl)) (f : (TDecl → Option Bool)) (y1 : Int) : Option (Int ⊕ (Int ⊕ Unit)) :=
  (bif (decide (y1 < (s.length : Int))) then (at' s y1).bind fun v2 => (f v2).bind fun v3 => (bif v3 then some (.inr (Sum.inl y1)) else some (.inl (w64 (y1 + 1)))) else some (.inr (Sum.inr ())))
theorem slices_IndexFunc_Decl_b1_le (s : (List TDecl)) (f : (TDecl → Option Bool)) (y1 : Int) (f' : (TDecl → Option Bool)) (h_f : ∀ x0, Le (f x0) (f' x0)) : Le (slices_IndexFunc_Decl_b1_e s f y1) (slices_IndexFunc_Decl_b1 s f' y1) := by
  unfold slices_IndexFunc_Decl_b1_e slices_IndexFunc_Decl_b1
  repeat' first | apply h_f | with_reducible refine Le.iter (fun _ => ?_) _ _ | with_reducible refine Le.bind ?_ ?_ | with_reducible refine Le.sum ?_ ?_ | with_reducible refine Le.sum ?_ ?_ _ | with_reducible refine Le.bif _ ?_ ?_ | with_reducible exact Le.refl _ | intro _
noncomputable def slices_IndexFunc_Decl_e (s : (List TDecl)) (f : (TDecl → Option Bool)) : Option Int :=
  (iterN (slices_IndexFunc_Decl_b1_e s f) 100000 0).bind (Sum.elim (fun (q4 : Int) => some q4) (fun (q5 : Unit) => some (-1)))
theorem slices_IndexFunc_Decl_le (s : (List TDecl)) (f : (TDecl → Option Bool)) (f' : (TDecl → Option Bool)) (h_f : ∀ x0, Le (f x0) (f' x0)) : Le (slices_IndexFunc_Decl_e s f) (slices_IndexFunc_Decl s f') := by
  unfold slices_IndexFunc_Decl_e slices_IndexFunc_Decl
  repeat' first | apply h_f | apply slices_IndexFunc_Decl_b1_le | with_reducible refine Le.iter (fun _ => ?_) _ _ | with_reducible refine Le.bind ?_ ?_ | with_reducible refine Le.sum ?_ ?_ | with_reducible refine Le.sum ?_ ?_ _ | with_reducible refine Le.bif _ ?_ ?_ | with_reducible exact Le.refl _ | intro _
noncomputable def slices_ContainsFunc_Decl_e (s : (List TDecl)) (f : (TDecl → Option Bool)) : Option Bool :=
  (slices_IndexFunc_Decl_e s f).bind fun v1 => some (decide (v1 ≥ 0))
theorem slices_ContainsFunc_Decl_le (s : (List TDecl)) (f : (TDecl → Option Bool)) (f' : (TDecl → Option Bool)) (h_f : ∀ x0, Le (f x0) (f' x0)) : Le (slices_ContainsFunc_Decl_e s f) (slices_ContainsFunc_Decl s f') := by
  unfold slices_ContainsFunc_Decl_e slices_ContainsFunc_Decl
  repeat' first | apply h_f | apply slices_IndexFunc_Decl_le | with_reducible refine Le.iter (fun _ => ?_) _ _ | with_reducible refine Le.bind ?_ ?_ | with_reducible refine Le.sum ?_ ?_ | with_reducible refine Le.sum ?_ ?_ _ | with_reducible refine Le.bif _ ?_ ?_ | with_reducible exact Le.refl _ | intro _
noncomputable def doc_prefix_e (s : Str) : Option Bool :=
  (bif (s == []) then some true else (name_Is_e s).bind fun v1 => some v1)
theorem doc_prefix_le (s : Str) : Le (doc_prefix_e s) (doc_prefix s) := by
  unfold doc_prefix_e doc_prefix
  repeat' first | apply name_Is_le | with_reducible refine Le.iter (fun _ => ?_) _ _ | with_reducible refine Le.bind ?_ ?_ | with_reducible refine Le.sum ?_ ?_ | with_reducible refine Le.sum ?_ ?_ _ | with_reducible refine Le.bif _ ?_ ?_ | with_reducible exact Le.refl _ | intro _
noncomputable def doc_text_e (s : Str) : Option Bool :=
  (utf_Text_e s).bind fun v1 => some v1
theorem doc_text_le (s : Str) : Le (doc_text_e s) (doc_text s) := by
  unfold doc_text_e doc_text
  repeat' first | apply utf_Text_le | with_reducible refine Le.iter (fun _ => ?_) _ _ | with_reducible refine Le.bind ?_ ?_ | with_reducible refine Le.sum ?_ ?_ | with_reducible refine Le.sum ?_ ?_ _ | with_reducible refine Le.bif _ ?_ ?_ | with_reducible exact Le.refl _ | intro _
noncomputable def doc_declared_b1_e (l : (List TDecl)) (y1 : Int) : Option (Int ⊕ (Unit ⊕ Unit)) :=
  (bif (decide (y1 < (l.length : Int))) then (at' l y1).bind fun v2 => (sub' l 0 y1).bind fun v3 => (slices_ContainsFunc_Decl_e v3 (fun x0 => doc_declared_c1 x0 v2)).bind fun v4 => (bif v4 then some (.inr (Sum.inl ())) else (doc_prefix_e v2.Prefix).bind fun v5 => (bif (!v5) then some (.inr (Sum.inl ())) else (bif (v2.Prefix == [120, 109, 108, 110, 115]) then some (.inr (Sum.inl ())) else (doc_text_e v2.URI).bind fun v6 => (bif (!v6) then some (.inr (Sum.inl ())) else (bif (v2.URI == []) then (bif (!(v2.Prefix == [])) then some (.inr (Sum.inl ())) else (bif (!((v2.Prefix == [120, 109, 108]) == (v2.URI == [104, 116, 116, 112, 58, 47, 47, 119, 119, 119, 46, 119, 51, 46, 111, 114, 103, 47, 88, 77, 76, 47, 49, 57, 57, 56, 47, 110, 97, 109, 101, 115, 112, 97, 99, 101]))) then some (.inr (Sum.inl ())) else (bif (v2.URI == [104, 116, 116, 112, 58, 47, 47, 119, 119, 119, 46, 119, 51, 46, 111, 114, 103, 47, 50, 48, 48, 48, 47, 120, 109, 108, 110, 115, 47]) then some (.inr (Sum.inl ())) else some (.inl (w64 (y1 + 1)))))) else (bif (!((v2.Prefix == [120, 109, 108]) == (v2.URI == [104, 116, 116, 112, 58, 47, 47, 119, 119, 119, 46, 119, 51, 46, 111, 114, 103, 47, 88, 77, 76, 47, 49, 57, 57, 56, 47, 110, 97, 109, 101, 115, 112, 97, 99, 101]))) then some (.inr (Sum.inl ())) else (bif (v2.URI == [104, 116, 116, 112, 58, 47, 47, 119, 119, 119, 46, 119, 51, 46, 111, 114, 103, 47, 50, 48, 48, 48, 47, 120, 109, 108, 110, 115, 47]) then some (.inr (Sum.inl ())) else some (.inl (w64 (y1 + 1)))))))))) else some (.inr (Sum.inr ())))
theorem doc_declared_b1_le (l : (List TDecl)) (y1 : Int) : Le (doc_declared_b1_e l y1) (doc_declared_b1 l y1) := by
  unfold doc_declared_b1_e doc_declared_b1
  repeat' first | apply doc_prefix_le | apply doc_text_le | apply slices_ContainsFunc_Decl_le | with_reducible refine Le.iter (fun _ => ?_) _ _ | with_reducible refine Le.bind ?_ ?_ | with_reducible refine Le.sum ?_ ?_ | with_reducible refine Le.sum ?_ ?_ _ | with_reducible refine Le.bif _ ?_ ?_ | with_reducible exact Le.refl _ | intro _
noncomputable def doc_declared_e (l : (List TDecl)) : Option Bool :=
  (iterN (doc_declared_b1_e l) 100000 0).bind (Sum.elim (fun (q7 : Unit) => some false) (fun (q8 : Unit) => some true))
theorem doc_declared_le (l : (List TDecl)) : Le (doc_declared_e l) (doc_declared l) := by
  unfold doc_declared_e doc_declared
  repeat' first | apply doc_declared_b1_le | with_reducible refine Le.iter (fun _ => ?_) _ _ | with_reducible refine Le.bind ?_ ?_ | with_reducible refine Le.sum ?_ ?_ | with_reducible refine Le.sum ?_ ?_ _ | with_reducible refine Le.bif _ ?_ ?_ | with_reducible exact Le.refl _ | intro _
noncomputable def doc_means_b1_e (l : (List TNode)) (p : Str) (y1 : Int) : Option (Int ⊕ (Str ⊕ Unit)) :=
  (bif (decide (y1 > 0)) then (at' l y1).bind fun v2 => (iterN (doc_means_b2 p v2) 100000 0).bind (Sum.elim (fun (q5 : Str) => some (.inr (Sum.inl q5))) (fun (q6 : Unit) => (at' l y1).bind fun v7 => some (.inl v7.Parent))) else some (.inr (Sum.inr ())))
theorem doc_means_b1_le (l : (List TNode)) (p : Str) (y1 : Int) : Le (doc_means_b1_e l p y1) (doc_means_b1 l p y1) := by
  unfold doc_means_b1_e doc_means_b1
  repeat' first | with_reducible refine Le.iter (fun _ => ?_) _ _ | with_reducible refine Le.bind ?_ ?_ | with_reducible refine Le.sum ?_ ?_ | with_reducible refine Le.sum ?_ ?_ _ | with_reducible refine Le.bif _ ?_ ?_ | with_reducible exact Le.refl _ | intro _
noncomputable def doc_means_e (l : (List TNode)) (n : Int) (p : Str) : Option (Str × Bool) :=
  (bif (p == [120, 109, 108]) then some ([104, 116, 116, 112, 58, 47, 47, 119, 119, 119, 46, 119, 51, 46, 111, 114, 103, 47, 88, 77, 76, 47, 49, 57, 57, 56, 47, 110, 97, 109, 101, 115, 112, 97, 99, 101], true) else (iterN (doc_means_b1_e l p) 100000 n).bind (Sum.elim (fun (q8 : Str) => some (q8, true)) (fun (q9 : Unit) => some ([], (p == [])))))
theorem doc_means_le (l : (List TNode)) (n : Int) (p : Str) : Le (doc_means_e l n p) (doc_means l n p) := by
  unfold doc_means_e doc_means
  repeat' first | apply doc_means_b1_le | with_reducible refine Le.iter (fun _ => ?_) _ _ | with_reducible refine Le.bind ?_ ?_ | with_reducible refine Le.sum ?_ ?_ | with_reducible refine Le.sum ?_ ?_ _ | with_reducible refine Le.bif _ ?_ ?_ | with_reducible exact Le.refl _ | intro _
noncomputable def slices_IndexFunc_Attr_b1_e (s : (List TAttr)) (f : (TAttr → Option Bool)) (y1 : Int) : Option (Int ⊕ (Int ⊕ Unit)) :=
  (bif (decide (y1 < (s.length : Int))) then (at' s y1).bind fun v2 => (f v2).bind fun v3 => (bif v3 then some (.inr (Sum.inl y1)) else some (.inl (w64 (y1 + 1)))) else some (.inr (Sum.inr ())))
theorem slices_IndexFunc_Attr_b1_le (s : (List TAttr)) (f : (TAttr → Option Bool)) (y1 : Int) (f' : (TAttr → Option Bool)) (h_f : ∀ x0, Le (f x0) (f' x0)) : Le (slices_IndexFunc_Attr_b1_e s f y1) (slices_IndexFunc_Attr_b1 s f' y1) := by
  unfold slices_IndexFunc_Attr_b1_e slices_IndexFunc_Attr_b1
  repeat' first | apply h_f | with_reducible refine Le.iter (fun _ => ?_) _ _ | with_reducible refine Le.bind ?_ ?_ | with_reducible refine Le.sum ?_ ?_ | with_reducible refine Le.sum ?_ ?_ _ | with_reducible refine Le.bif _ ?_ ?_ | with_reducible exact Le.refl _ | intro _
noncomputable def slices_IndexFunc_Attr_e (s : (List TAttr)) (f : (TAttr → Option Bool)) : Option Int :=
  (iterN (slices_IndexFunc_Attr_b1_e s f) 100000 0).bind (Sum.elim (fun (q4 : Int) => some q4) (fun (q5 : Unit) => some (-1)))
theorem slices_IndexFunc_Attr_le (s : (List TAttr)) (f : (TAttr → Option Bool)) (f' : (TAttr → Option Bool)) (h_f : ∀ x0, Le (f x0) (f' x0)) : Le (slices_IndexFunc_Attr_e s f) (slices_IndexFunc_Attr s f') := by
  unfold slices_IndexFunc_Attr_e slices_IndexFunc_Attr
  repeat' first | apply h_f | apply slices_IndexFunc_Attr_b1_le | with_reducible refine Le.iter (fun _ => ?_) _ _ | with_reducible refine Le.bind ?_ ?_ | with_reducible refine Le.sum ?_ ?_ | with_reducible refine Le.sum ?_ ?_ _ | with_reducible refine Le.bif _ ?_ ?_ | with_reducible exact Le.refl _ | intro _
noncomputable def slices_ContainsFunc_Attr_e (s : (List TAttr)) (f : (TAttr → Option Bool)) : Option Bool :=
  (slices_IndexFunc_Attr_e s f).bind fun v1 => some (decide (v1 ≥ 0))
theorem slices_ContainsFunc_Attr_le (s : (List TAttr)) (f : (TAttr → Option Bool)) (f' : (TAttr → Option Bool)) (h_f : ∀ x0, Le (f x0) (f' x0)) : Le (slices_ContainsFunc_Attr_e s f) (slices_ContainsFunc_Attr s f') := by
  unfold slices_ContainsFunc_Attr_e slices_ContainsFunc_Attr
  repeat' first | apply h_f | apply slices_IndexFunc_Attr_le | with_reducible refine Le.iter (fun _ => ?_) _ _ | with_reducible refine Le.bind ?_ ?_ | with_reducible refine Le.sum ?_ ?_ | with_reducible refine Le.sum ?_ ?_ _ | with_reducible refine Le.bif _ ?_ ?_ | with_reducible exact Le.refl _ | intro _
noncomputable def doc_named_b1_e (l : (List TNode)) (n : Int) (v1 : TNode) (y6 : Int) : Option (Int ⊕ (Unit ⊕ Unit)) :=
  (bif (decide (y6 < (v1.Attrs.length : Int))) then (at' v1.Attrs y6).bind fun v7 => (doc_means_e l n v7.Prefix).bind fun v8 => (bif (v7.Prefix == []) then (sub' v1.Attrs 0 y6).bind fun v9 => (slices_ContainsFunc_Attr_e v9 (fun x0 => doc_named_c1 x0 v7)).bind fun v10 => (bif v10 then some (.inr (Sum.inl ())) else (bif (!v8.2) then some (.inr (Sum.inl ())) else (bif (!([] == v7.URI)) then some (.inr (Sum.inl ())) else (name_Is_e v7.Local).bind fun v11 => (bif (!v11) then some (.inr (Sum.inl ())) else (doc_prefix_e v7.Prefix).bind fun v12 => (bif (!v12) then some (.inr (Sum.inl ())) else (bif (v7.Prefix == [120, 109, 108, 110, 115]) then some (.inr (Sum.inl ())) else (bif (v7.Prefix == []) then (bif (v7.Local == [120, 109, 108, 110, 115]) then some (.inr (Sum.inl ())) else (doc_text_e v7.Value).bind fun v13 => (bif (!v13) then some (.inr (Sum.inl ())) else some (.inl (w64 (y6 + 1))))) else (doc_text_e v7.Value).bind fun v14 => (bif (!v14) then some (.inr (Sum.inl ())) else some (.inl (w64 (y6 + 1))))))))))) else (sub' v1.Attrs 0 y6).bind fun v15 => (slices_ContainsFunc_Attr_e v15 (fun x0 => doc_named_c1 x0 v7)).bind fun v16 => (bif v16 then some (.inr (Sum.inl ())) else (bif (!v8.2) then some (.inr (Sum.inl ())) else (bif (!(v8.1 == v7.URI)) then some (.inr (Sum.inl ())) else (name_Is_e v7.Local).bind fun v17 => (bif (!v17) then some (.inr (Sum.inl ())) else (doc_prefix_e v7.Prefix).bind fun v18 => (bif (!v18) then some (.inr (Sum.inl ())) else (bif (v7.Prefix == [120, 109, 108, 110, 115]) then some (.inr (Sum.inl ())) else (bif (v7.Prefix == []) then (bif (v7.Local == [120, 109, 108, 110, 115]) then some (.inr (Sum.inl ())) else (doc_text_e v7.Value).bind fun v19 => (bif (!v19) then some (.inr (Sum.inl ())) else some (.inl (w64 (y6 + 1))))) else (doc_text_e v7.Value).bind fun v20 => (bif (!v20) then some (.inr (Sum.inl ())) else some (.inl (w64 (y6 + 1)))))))))))) else some (.inr (Sum.inr ())))
theorem doc_named_b1_le (l : (List TNode)) (n : Int) (v1 : TNode) (y6 : Int) : Le (doc_named_b1_e l n v1 y6) (doc_named_b1 l n v1 y6) := by
  unfold doc_named_b1_e doc_named_b1
  repeat' first | apply doc_means_le | apply doc_prefix_le | apply doc_text_le | apply name_Is_le | apply slices_ContainsFunc_Attr_le | with_reducible refine Le.iter (fun _ => ?_) _ _ | with_reducible refine Le.bind ?_ ?_ | with_reducible refine Le.sum ?_ ?_ | with_reducible refine Le.sum ?_ ?_ _ | with_reducible refine Le.bif _ ?_ ?_ | with_reducible exact Le.refl _ | intro _
noncomputable def doc_named_e (l : (List TNode)) (n : Int) : Option Bool :=
  (at' l n).bind fun v1 => (doc_means_e l n v1.Prefix).bind fun v2 => ((bif (!v2.2) then some true else (bif (!(v2.1 == v1.URI)) then some true else (name_Is_e v1.Local).bind fun v3 => (bif (!v3) then some true else (doc_prefix_e v1.Prefix).bind fun v4 => (bif (!v4) then some true else some (v1.Prefix == [120, 109, 108, 110, 115]))))) : Option (Bool)).bind (fun (q5 : Bool) => (bif q5 then some false else (iterN (doc_named_b1_e l n v1) 100000 0).bind (Sum.elim (fun (q21 : Unit) => some false) (fun (q22 : Unit) => some true))))
theorem doc_named_le (l : (List TNode)) (n : Int) : Le (doc_named_e l n) (doc_named l n) := by
  unfold doc_named_e doc_named
  repeat' first | apply doc_means_le | apply doc_named_b1_le | apply doc_prefix_le | apply name_Is_le | with_reducible refine Le.iter (fun _ => ?_) _ _ | with_reducible refine Le.bind ?_ ?_ | with_reducible refine Le.sum ?_ ?_ | with_reducible refine Le.sum ?_ ?_ _ | with_reducible refine Le.bif _ ?_ ?_ | with_reducible exact Le.refl _ | intro _
noncomputable def doc_formed_e (l : (List TNode)) (n : Int) (last : Int) : Option Bool :=
  (at' l n).bind fun v1 => (bif (v1.Kind == 1) then (bif (v1.Text == []) then (doc_declared_e v1.Decls).bind fun v2 => (bif v2 then (doc_named_e l n).bind fun v3 => some v3 else some false) else some false) else (bif (v1.Kind == 2) then (doc_bare v1).bind fun v4 => (bif v4 then (bif (v1.Local == []) then (bif (!(v1.Text == [])) then (doc_text_e v1.Text).bind fun v5 => (bif v5 then (bif (decide (last < 0)) then some true else (at' l last).bind fun v6 => some (v6.Kind != 2)) else some false) else some false) else some false) else some false) else (bif (v1.Kind == 3) then (doc_bare v1).bind fun v7 => (bif v7 then (bif (v1.Local == []) then (doc_text_e v1.Text).bind fun v8 => (bif v8 then (strings_Contains v1.Text [45, 45]).bind fun v9 => (bif (!v9) then (strings_HasSuffix v1.Text [45]).bind fun v10 => some (!v10) else some false) else some false) else some false) else some false) else (bif (v1.Kind == 4) then ((bif (!(v1.Text == [])) then (at' v1.Text 0).bind fun v11 => (name_Blank v11).bind fun v12 => some v12 else some false) : Option (Bool)).bind (fun (q13 : Bool) => (doc_bare v1).bind fun v14 => (bif v14 then (name_Is_e v1.Local).bind fun v15 => (bif v15 then none else some false) else some false)) else some false))))
theorem doc_formed_le (l : (List TNode)) (n : Int) (last : Int) : Le (doc_formed_e l n last) (doc_formed l n last) := by
  unfold doc_formed_e doc_formed
  repeat' first | apply doc_declared_le | apply doc_named_le | apply doc_text_le | apply name_Is_le | with_reducible refine Le.iter (fun _ => ?_) _ _ | with_reducible refine Le.bind ?_ ?_ | with_reducible refine Le.sum ?_ ?_ | with_reducible refine Le.sum ?_ ?_ _ | with_reducible refine Le.bif _ ?_ ?_ | with_reducible exact Le.refl _ | intro _
noncomputable def doc_check_b2_e (l : (List TNode)) (y13 : Int × Int × (List Int)) : Option ((Int × Int × (List Int)) ⊕ (Unit ⊕ Int)) :=
  (bif (decide (y13.2.1 < (l.length : Int))) then ((doc_stands_e l y13.2.1).bind fun v14 => (bif (!v14) then some true else (at' l y13.2.1).bind fun v15 => (at' y13.2.2 v15.Parent).bind fun v16 => (doc_formed_e l y13.2.1 v16).bind fun v17 => (bif (!v17) then some true else (at' l y13.2.1).bind fun v18 => (doc_under v18).bind fun v19 => some (!v19))) : Option (Bool)).bind (fun (q20 : Bool) => (bif q20 then some (.inr (Sum.inl ())) else (at' l y13.2.1).bind fun v21 => (bif (v21.Parent == 0) then (at' l y13.2.1).bind fun v22 => (bif (v22.Kind == 1) then (bif (decide (y13.1 > 0)) then some (.inr (Sum.inl ())) else (at' l y13.2.1).bind fun v23 => (at' y13.2.2 v23.Parent).bind fun v24 => (put y13.2.2 v23.Parent y13.2.1).bind fun v25 => some (.inl (y13.2.1, (w64 (y13.2.1 + 1)), v25))) else (at' l y13.2.1).bind fun v26 => (at' y13.2.2 v26.Parent).bind fun v27 => (put y13.2.2 v26.Parent y13.2.1).bind fun v28 => some (.inl (y13.1, (w64 (y13.2.1 + 1)), v28))) else (at' l y13.2.1).bind fun v29 => (at' y13.2.2 v29.Parent).bind fun v30 => (put y13.2.2 v29.Parent y13.2.1).bind fun v31 => some (.inl (y13.1, (w64 (y13.2.1 + 1)), v31))))) else some (.inr (Sum.inr y13.1)))
theorem doc_check_b2_le (l : (List TNode)) (y13 : Int × Int × (List Int)) : Le (doc_check_b2_e l y13) (doc_check_b2 l y13) := by
  unfold doc_check_b2_e doc_check_b2
  repeat' first | apply doc_formed_le | apply doc_stands_le | with_reducible refine Le.iter (fun _ => ?_) _ _ | with_reducible refine Le.bind ?_ ?_ | with_reducible refine Le.sum ?_ ?_ | with_reducible refine Le.sum ?_ ?_ _ | with_reducible refine Le.bif _ ?_ ?_ | with_reducible exact Le.refl _ | intro _
noncomputable def doc_check_e (l : (List TNode)) : Option (Int × Bool) :=
  ((bif ((l.length : Int) == 0) then some true else (at' l 0).bind fun v1 => (bif (v1.Kind != 0) then some true else (at' l 0).bind fun v2 => (bif (v2.Parent != (-1)) then some true else (at' l 0).bind fun v3 => (doc_bare v3).bind fun v4 => (bif (!v4) then some true else (at' l 0).bind fun v5 => (bif (!(v5.Local == [])) then some true else (at' l 0).bind fun v6 => some (!(v6.Text == []))))))) : Option (Bool)).bind (fun (q7 : Bool) => (bif q7 then some (0, false) else (mk 8 (l.length : Int) 0).bind fun v8 => (iterN (doc_check_b1 v8) 100000 (0, v8)).bind (fun (q12 : (List Int)) => (iterN (doc_check_b2_e l) 100000 (0, 1, q12)).bind (Sum.elim (fun (q32 : Unit) => some (0, false)) (fun (q33 : Int) => some (q33, (decide (q33 > 0))))))))
theorem doc_check_le (l : (List TNode)) : Le (doc_check_e l) (doc_check l) := by
  unfold doc_check_e doc_check
  repeat' first | apply doc_check_b2_le | with_reducible refine Le.iter (fun _ => ?_) _ _ | with_reducible refine Le.bind ?_ ?_ | with_reducible refine Le.sum ?_ ?_ | with_reducible refine Le.sum ?_ ?_ _ | with_reducible refine Le.bif _ ?_ ?_ | with_reducible exact Le.refl _ | intro _
noncomputable def doc_within_e (l : (List TNode)) : Option Bool :=
  (bif (decide ((l.length : Int) > 4000)) then some false else (mk 8 (l.length : Int) 0).bind fun v1 => (iterN (doc_within_b1 l) 100000 (0, v1)).bind (Sum.elim (fun (q9 : Unit) => some false) (fun (q10 : Unit) => some true)))
theorem doc_within_le (l : (List TNode)) : Le (doc_within_e l) (doc_within l) := by
  unfold doc_within_e doc_within
  repeat' first | with_reducible refine Le.iter (fun _ => ?_) _ _ | with_reducible refine Le.bind ?_ ?_ | with_reducible refine Le.sum ?_ ?_ | with_reducible refine Le.sum ?_ ?_ _ | with_reducible refine Le.bif _ ?_ ?_ | with_reducible exact Le.refl _ | intro _
noncomputable def doc_Of_e (l : (List TNode)) : Option ((Option TDoc) × Int) :=
  (doc_check_e l).bind fun v1 => (bif (!v1.2) then some (none, 2) else (doc_within_e l).bind fun v2 => (bif (!v2) then some (none, 3) else (mk 8 (l.length : Int) 0).bind fun v3 => (iterN (doc_Of_b1 l) 100000 (0, [])).bind (fun (q8 : (List TNode)) => (iterN (doc_Of_b2 l) 100000 ((w64 ((l.length : Int) - 1)), v3)).bind (fun (q18 : (List Int)) => some ((some (TDoc.mk q8 q18 v1.1)), 0)))))
theorem doc_Of_le (l : (List TNode)) : Le (doc_Of_e l) (doc_Of l) := by
  unfold doc_Of_e doc_Of
  repeat' first | apply doc_check_le | apply doc_within_le | with_reducible refine Le.iter (fun _ => ?_) _ _ | with_reducible refine Le.bind ?_ ?_ | with_reducible refine Le.sum ?_ ?_ | with_reducible refine Le.sum ?_ ?_ _ | with_reducible refine Le.bif _ ?_ ?_ | with_reducible exact Le.refl _ | intro _
noncomputable def parse_reader_blanks_s23_e (u1 : Str) (u2 : Bool) (u3 : Bool) (u4 : (List TNode)) (u5 : (List TOpen_)) (u6 : (List UInt8)) : Option (Bool × Str) :=
  (iterN (parse_reader_blanks_s23_b1 u1) 100000 0).bind (fun (q4 : Int) => (sub' u1 q4 (u1.length : Int)).bind fun v5 => some ((decide (q4 > 0)), v5))
theorem parse_reader_blanks_s23_le (u1 : Str) (u2 : Bool) (u3 : Bool) (u4 : (List TNode)) (u5 : (List TOpen_)) (u6 : (List UInt8)) : Le (parse_reader_blanks_s23_e u1 u2 u3 u4 u5 u6) (parse_reader_blanks_s23 u1 u2 u3 u4 u5 u6) := by
  unfold parse_reader_blanks_s23_e parse_reader_blanks_s23
  repeat' first | with_reducible refine Le.iter (fun _ => ?_) _ _ | with_reducible refine Le.bind ?_ ?_ | with_reducible refine Le.sum ?_ ?_ | with_reducible refine Le.sum ?_ ?_ _ | with_reducible refine Le.bif _ ?_ ?_ | with_reducible exact Le.refl _ | intro _
noncomputable def parse_reader_declaration_s22_e (u1 : Str) (u2 : Bool) (u3 : Bool) (u4 : (List TNode)) (u5 : (List TOpen_)) (u6 : (List UInt8)) : Option (Bool × Str) :=
  ((bif (decide ((u1.length : Int) < 6)) then some true else (sub' u1 0 5).bind fun v1 => (bif (!(v1 == [60, 63, 120, 109, 108])) then some true else (at' u1 5).bind fun v2 => (name_Blank v2).bind fun v3 => some (!v3))) : Option (Bool)).bind (fun (q4 : Bool) => (bif q4 then some (true, u1) else (sub' u1 5 (u1.length : Int)).bind fun v5 => (parse_reader_blanks_s23_e v5 u2 u3 u4 u5 u6).bind fun v6 => (strings_HasPrefix v6.2 [118, 101, 114, 115, 105, 111, 110]).bind fun v7 => (bif (!v7) then some (false, v6.2) else none)))
theorem parse_reader_declaration_s22_le (u1 : Str) (u2 : Bool) (u3 : Bool) (u4 : (List TNode)) (u5 : (List TOpen_)) (u6 : (List UInt8)) : Le (parse_reader_declaration_s22_e u1 u2 u3 u4 u5 u6) (parse_reader_declaration_s22 u1 u2 u3 u4 u5 u6) := by
  unfold parse_reader_declaration_s22_e parse_reader_declaration_s22
  repeat' first | apply parse_reader_blanks_s23_le | with_reducible refine Le.iter (fun _ => ?_) _ _ | with_reducible refine Le.bind ?_ ?_ | with_reducible refine Le.sum ?_ ?_ | with_reducible refine Le.sum ?_ ?_ _ | with_reducible refine Le.bif _ ?_ ?_ | with_reducible exact Le.refl _ | intro _
noncomputable def parse_reader_word_s36_b1_e (u1 : Str) (y1 : Int × Nat) : Option ((Int × Nat) ⊕ Int) :=
  (bif (decide (y1.2 < u1.length)) then (bif (((dec u1 y1.2).1 : Int) != 58) then (name_Stands_e ((dec u1 y1.2).1 : Int)).bind fun v2 => (bif (!v2) then some (.inr y1.1) else some (.inl ((w64 ((y1.2 : Int) + ((enc ((dec u1 y1.2).1 : Int)).length : Int))), (y1.2 + (dec u1 y1.2).2)))) else some (.inl ((w64 ((y1.2 : Int) + ((enc ((dec u1 y1.2).1 : Int)).length : Int))), (y1.2 + (dec u1 y1.2).2)))) else some (.inr y1.1))
theorem parse_reader_word_s36_b1_le (u1 : Str) (y1 : Int × Nat) : Le (parse_reader_word_s36_b1_e u1 y1) (parse_reader_word_s36_b1 u1 y1) := by
  unfold parse_reader_word_s36_b1_e parse_reader_word_s36_b1
  repeat' first | apply name_Stands_le | with_reducible refine Le.iter (fun _ => ?_) _ _ | with_reducible refine Le.bind ?_ ?_ | with_reducible refine Le.sum ?_ ?_ | with_reducible refine Le.sum ?_ ?_ _ | with_reducible refine Le.bif _ ?_ ?_ | with_reducible exact Le.refl _ | intro _
noncomputable def parse_reader_word_s36_e (u1 : Str) (u2 : Bool) (u3 : Bool) (u4 : (List TNode)) (u5 : (List TOpen_)) (u6 : (List UInt8)) : Option (Str × Str) :=
  (iterN (parse_reader_word_s36_b1_e u1) 100000 (0, 0)).bind (fun (q3 : Int) => (sub' u1 0 q3).bind fun v4 => (sub' u1 q3 (u1.length : Int)).bind fun v5 => some (v4, v5))
theorem parse_reader_word_s36_le (u1 : Str) (u2 : Bool) (u3 : Bool) (u4 : (List TNode)) (u5 : (List TOpen_)) (u6 : (List UInt8)) : Le (parse_reader_word_s36_e u1 u2 u3 u4 u5 u6) (parse_reader_word_s36 u1 u2 u3 u4 u5 u6) := by
  unfold parse_reader_word_s36_e parse_reader_word_s36
  repeat' first | apply parse_reader_word_s36_b1_le | with_reducible refine Le.iter (fun _ => ?_) _ _ | with_reducible refine Le.bind ?_ ?_ | with_reducible refine Le.sum ?_ ?_ | with_reducible refine Le.sum ?_ ?_ _ | with_reducible refine Le.bif _ ?_ ?_ | with_reducible exact Le.refl _ | intro _
noncomputable def parse_reader_quoted_s40_e (u1 : Str) (u2 : Bool) (u3 : Bool) (u4 : (List TNode)) (u5 : (List TOpen_)) (u6 : (List UInt8)) : Option (Str × Bool × Str) :=
  (parse_reader_blanks_s23_e u1 u2 u3 u4 u5 u6).bind fun v1 => (parse_reader_take_s25 [61] v1.2 u2 u3 u4 u5 u6).bind fun v2 => (bif (!v2.1) then some ([], false, v2.2) else (parse_reader_blanks_s23_e v2.2 u2 u3 u4 u5 u6).bind fun v3 => ((bif (v3.2 == []) then some true else (sub' v3.2 0 1).bind fun v4 => (strings_Contains [39, 34] v4).bind fun v5 => some (!v5)) : Option (Bool)).bind (fun (q6 : Bool) => (bif q6 then some ([], false, v3.2) else (sub' v3.2 0 1).bind fun v7 => (sub' v3.2 1 (v3.2.length : Int)).bind fun v8 => (parse_reader_until_s26 v7 v8 u2 u3 u4 u5 u6).bind fun v9 => some (v9.1, v9.2.1, v9.2.2))))
theorem parse_reader_quoted_s40_le (u1 : Str) (u2 : Bool) (u3 : Bool) (u4 : (List TNode)) (u5 : (List TOpen_)) (u6 : (List UInt8)) : Le (parse_reader_quoted_s40_e u1 u2 u3 u4 u5 u6) (parse_reader_quoted_s40 u1 u2 u3 u4 u5 u6) := by
  unfold parse_reader_quoted_s40_e parse_reader_quoted_s40
  repeat' first | apply parse_reader_blanks_s23_le | with_reducible refine Le.iter (fun _ => ?_) _ _ | with_reducible refine Le.bind ?_ ?_ | with_reducible refine Le.sum ?_ ?_ | with_reducible refine Le.sum ?_ ?_ _ | with_reducible refine Le.bif _ ?_ ?_ | with_reducible exact Le.refl _ | intro _
noncomputable def parse_reader_mark_s39_e (u1 : Str) (u2 : Bool) (u3 : Bool) (u4 : (List TNode)) (u5 : (List TOpen_)) (u6 : (List UInt8)) (u7 : Int) (u8 : Int) (u9 : Str) (u10 : Str) (u11 : Str) (u12 : Str) (u13 : (List TDecl)) (u14 : (List TAttr)) : Option (Bool × Str × (List TDecl) × (List TAttr)) :=
  (parse_reader_word_s36_e u1 u2 u3 u4 u5 u6).bind fun v1 => (name_Split_e v1.1).bind fun v2 => (parse_reader_quoted_s40_e v1.2 u2 u3 u4 u5 u6).bind fun v3 => (chars_Value_e v3.1).bind fun v4 => ((bif (!v2.2.2) then some true else (bif (!v3.2.1) then some true else some (!v4.2))) : Option (Bool)).bind (fun (q5 : Bool) => (bif q5 then some (false, v3.2.2, u13, u14) else (bif (v2.1 == [120, 109, 108, 110, 115]) then (app 32 u13 [(TDecl.mk v2.2.1 v4.1)]).bind fun v6 => some (true, v3.2.2, v6, u14) else ((bif (v2.1 == []) then some (v2.2.1 == [120, 109, 108, 110, 115]) else some false) : Option (Bool)).bind (fun (q7 : Bool) => (bif q7 then (app 32 u13 [(TDecl.mk [] v4.1)]).bind fun v8 => some (true, v3.2.2, v8, u14) else (app 64 u14 [(TAttr.mk v2.1 v2.2.1 [] v4.1)]).bind fun v9 => some (true, v3.2.2, u13, v9))))))
theorem parse_reader_mark_s39_le (u1 : Str) (u2 : Bool) (u3 : Bool) (u4 : (List TNode)) (u5 : (List TOpen_)) (u6 : (List UInt8)) (u7 : Int) (u8 : Int) (u9 : Str) (u10 : Str) (u11 : Str) (u12 : Str) (u13 : (List TDecl)) (u14 : (List TAttr)) : Le (parse_reader_mark_s39_e u1 u2 u3 u4 u5 u6 u7 u8 u9 u10 u11 u12 u13 u14) (parse_reader_mark_s39 u1 u2 u3 u4 u5 u6 u7 u8 u9 u10 u11 u12 u13 u14) := by
  unfold parse_reader_mark_s39_e parse_reader_mark_s39
  repeat' first | apply chars_Value_le | apply name_Split_le | apply parse_reader_quoted_s40_le | apply parse_reader_word_s36_le | with_reducible refine Le.iter (fun _ => ?_) _ _ | with_reducible refine Le.bind ?_ ?_ | with_reducible refine Le.sum ?_ ?_ | with_reducible refine Le.sum ?_ ?_ _ | with_reducible refine Le.bif _ ?_ ?_ | with_reducible exact Le.refl _ | intro _
noncomputable def parse_reader_means_s42_b1_e (u1 : Str) (u5 : (List TNode)) (u6 : (List TOpen_)) (u8 : (List TDecl)) (y1 : Int) : Option (Int ⊕ (Str ⊕ Unit)) :=
  (bif (decide (y1 ≥ 0)) then (bif (decide (y1 < (u6.length : Int))) then (at' u6 y1).bind fun v2 => (at' u5 v2.n).bind fun v3 => (iterN (parse_reader_means_s42_b2 u1 v3) 100000 0).bind (Sum.elim (fun (q6 : Str) => some (.inr (Sum.inl q6))) (fun (q7 : Unit) => some (.inl (w64 (y1 - 1))))) else (iterN (parse_reader_means_s42_b3 u1 u8) 100000 0).bind (Sum.elim (fun (q10 : Str) => some (.inr (Sum.inl q10))) (fun (q11 : Unit) => some (.inl (w64 (y1 - 1)))))) else some (.inr (Sum.inr ())))
theorem parse_reader_means_s42_b1_le (u1 : Str) (u5 : (List TNode)) (u6 : (List TOpen_)) (u8 : (List TDecl)) (y1 : Int) : Le (parse_reader_means_s42_b1_e u1 u5 u6 u8 y1) (parse_reader_means_s42_b1 u1 u5 u6 u8 y1) := by
  unfold parse_reader_means_s42_b1_e parse_reader_means_s42_b1
  repeat' first | with_reducible refine Le.iter (fun _ => ?_) _ _ | with_reducible refine Le.bind ?_ ?_ | with_reducible refine Le.sum ?_ ?_ | with_reducible refine Le.sum ?_ ?_ _ | with_reducible refine Le.bif _ ?_ ?_ | with_reducible exact Le.refl _ | intro _
noncomputable def parse_reader_means_s42_e (u1 : Str) (u2 : Str) (u3 : Bool) (u4 : Bool) (u5 : (List TNode)) (u6 : (List TOpen_)) (u7 : (List UInt8)) (u8 : (List TDecl)) : Option Str :=
  (bif (u1 == [120, 109, 108]) then some [104, 116, 116, 112, 58, 47, 47, 119, 119, 119, 46, 119, 51, 46, 111, 114, 103, 47, 88, 77, 76, 47, 49, 57, 57, 56, 47, 110, 97, 109, 101, 115, 112, 97, 99, 101] else (iterN (parse_reader_means_s42_b1_e u1 u5 u6 u8) 100000 (u6.length : Int)).bind (Sum.elim (fun (q12 : Str) => some q12) (fun (q13 : Unit) => some [])))
theorem parse_reader_means_s42_le (u1 : Str) (u2 : Str) (u3 : Bool) (u4 : Bool) (u5 : (List TNode)) (u6 : (List TOpen_)) (u7 : (List UInt8)) (u8 : (List TDecl)) : Le (parse_reader_means_s42_e u1 u2 u3 u4 u5 u6 u7 u8) (parse_reader_means_s42 u1 u2 u3 u4 u5 u6 u7 u8) := by
  unfold parse_reader_means_s42_e parse_reader_means_s42
  repeat' first | apply parse_reader_means_s42_b1_le | with_reducible refine Le.iter (fun _ => ?_) _ _ | with_reducible refine Le.bind ?_ ?_ | with_reducible refine Le.sum ?_ ?_ | with_reducible refine Le.sum ?_ ?_ _ | with_reducible refine Le.bif _ ?_ ?_ | with_reducible exact Le.refl _ | intro _
noncomputable def parse_reader_enter_s44_b1_e (u9 : Str) (u10 : Bool) (u11 : Bool) (u12 : (List TNode)) (u13 : (List TOpen_)) (u14 : (List UInt8)) (u15 : (List TDecl)) (u16 : (List TAttr)) (y2 : Int × (List TAttr)) : Option ((Int × (List TAttr)) ⊕ (List TAttr)) :=
  (bif (decide (y2.1 < (u16.length : Int))) then (at' y2.2 y2.1).bind fun v3 => (bif (!(v3.Prefix == [])) then (parse_reader_means_s42_e v3.Prefix u9 u10 u11 u12 u13 u14 u15).bind fun v4 => (at' y2.2 y2.1).bind fun v5 => (put y2.2 y2.1 (TAttr.mk v5.Prefix v5.Local v4 v5.Value)).bind fun v6 => some (.inl ((w64 (y2.1 + 1)), v6)) else some (.inl ((w64 (y2.1 + 1)), y2.2))) else some (.inr y2.2))
theorem parse_reader_enter_s44_b1_le (u9 : Str) (u10 : Bool) (u11 : Bool) (u12 : (List TNode)) (u13 : (List TOpen_)) (u14 : (List UInt8)) (u15 : (List TDecl)) (u16 : (List TAttr)) (y2 : Int × (List TAttr)) : Le (parse_reader_enter_s44_b1_e u9 u10 u11 u12 u13 u14 u15 u16 y2) (parse_reader_enter_s44_b1 u9 u10 u11 u12 u13 u14 u15 u16 y2) := by
  unfold parse_reader_enter_s44_b1_e parse_reader_enter_s44_b1
  repeat' first | apply parse_reader_means_s42_le | with_reducible refine Le.iter (fun _ => ?_) _ _ | with_reducible refine Le.bind ?_ ?_ | with_reducible refine Le.sum ?_ ?_ | with_reducible refine Le.sum ?_ ?_ _ | with_reducible refine Le.bif _ ?_ ?_ | with_reducible exact Le.refl _ | intro _
noncomputable def parse_reader_enter_s44_e (u1 : Int) (u2 : Int) (u3 : Str) (u4 : Str) (u5 : Str) (u6 : Str) (u7 : Str) (u8 : Bool) (u9 : Str) (u10 : Bool) (u11 : Bool) (u12 : (List TNode)) (u13 : (List TOpen_)) (u14 : (List UInt8)) (u15 : (List TDecl)) (u16 : (List TAttr)) : Option (Bool × (List TNode) × (List TOpen_) × (List UInt8)) :=
  (parse_reader_means_s42_e u3 u9 u10 u11 u12 u13 u14 u15).bind fun v1 => (iterN (parse_reader_enter_s44_b1_e u9 u10 u11 u12 u13 u14 u15 u16) 100000 (0, u16)).bind (fun (q7 : (List TAttr)) => (parse_reader_put_s45 u1 u2 u3 u4 v1 u6 u9 u10 u11 u12 u13 u14 u15 q7).bind fun v8 => (bif (!u8) then (app 24 u13 [(TOpen_.mk (w64 ((v8.2.1.length : Int) - 1)) u7)]).bind fun v9 => some (v8.1, v8.2.1, v9, v8.2.2) else some (v8.1, v8.2.1, u13, v8.2.2)))
theorem parse_reader_enter_s44_le (u1 : Int) (u2 : Int) (u3 : Str) (u4 : Str) (u5 : Str) (u6 : Str) (u7 : Str) (u8 : Bool) (u9 : Str) (u10 : Bool) (u11 : Bool) (u12 : (List TNode)) (u13 : (List TOpen_)) (u14 : (List UInt8)) (u15 : (List TDecl)) (u16 : (List TAttr)) : Le (parse_reader_enter_s44_e u1 u2 u3 u4 u5 u6 u7 u8 u9 u10 u11 u12 u13 u14 u15 u16) (parse_reader_enter_s44 u1 u2 u3 u4 u5 u6 u7 u8 u9 u10 u11 u12 u13 u14 u15 u16) := by
  unfold parse_reader_enter_s44_e parse_reader_enter_s44
  repeat' first | apply parse_reader_enter_s44_b1_le | apply parse_reader_means_s42_le | with_reducible refine Le.iter (fun _ => ?_) _ _ | with_reducible refine Le.bind ?_ ?_ | with_reducible refine Le.sum ?_ ?_ | with_reducible refine Le.sum ?_ ?_ _ | with_reducible refine Le.bif _ ?_ ?_ | with_reducible exact Le.refl _ | intro _
noncomputable def parse_reader_start_s35_b1_e (u2 : Bool) (u3 : Bool) (u4 : (List TNode)) (u5 : (List TOpen_)) (u6 : (List UInt8)) (v1 : Str × Str) (v2 : Str × Str × Bool) (y3 : Str × (List TDecl) × (List TAttr)) : Option ((Str × (List TDecl) × (List TAttr)) ⊕ (Bool × Str × Bool × (List TNode) × (List TOpen_) × (List UInt8))) :=
  (parse_reader_blanks_s23_e y3.1 u2 u3 u4 u5 u6).bind fun v4 => (parse_reader_take_s25 [62] v4.2 u2 u3 u4 u5 u6).bind fun v5 => (bif (!v5.1) then (parse_reader_take_s25 [47, 62] v5.2 u2 u3 u4 u5 u6).bind fun v6 => (bif v5.1 then (parse_reader_enter_s44_e 1 0 v2.1 v2.2.1 [] [] v1.1 v6.1 v6.2 u2 u3 u4 u5 u6 y3.2.1 y3.2.2).bind fun v7 => some (.inr (true, v6.2, v7.1, v7.2.1, v7.2.2.1, v7.2.2.2)) else (bif v6.1 then (parse_reader_enter_s44_e 1 0 v2.1 v2.2.1 [] [] v1.1 v6.1 v6.2 u2 u3 u4 u5 u6 y3.2.1 y3.2.2).bind fun v8 => some (.inr (true, v6.2, v8.1, v8.2.1, v8.2.2.1, v8.2.2.2)) else (bif (!v4.1) then some (.inr (false, v6.2, u2, u4, u5, u6)) else (parse_reader_mark_s39_e v6.2 u2 u3 u4 u5 u6 1 0 v2.1 v2.2.1 [] [] y3.2.1 y3.2.2).bind fun v9 => (bif (!v9.1) then some (.inr (false, v9.2.1, u2, u4, u5, u6)) else some (.inl (v9.2.1, v9.2.2.1, v9.2.2.2)))))) else (bif v5.1 then (parse_reader_enter_s44_e 1 0 v2.1 v2.2.1 [] [] v1.1 false v5.2 u2 u3 u4 u5 u6 y3.2.1 y3.2.2).bind fun v10 => some (.inr (true, v5.2, v10.1, v10.2.1, v10.2.2.1, v10.2.2.2)) else (bif (!v4.1) then some (.inr (false, v5.2, u2, u4, u5, u6)) else (parse_reader_mark_s39_e v5.2 u2 u3 u4 u5 u6 1 0 v2.1 v2.2.1 [] [] y3.2.1 y3.2.2).bind fun v11 => (bif (!v11.1) then some (.inr (false, v11.2.1, u2, u4, u5, u6)) else some (.inl (v11.2.1, v11.2.2.1, v11.2.2.2))))))
theorem parse_reader_start_s35_b1_le (u2 : Bool) (u3 : Bool) (u4 : (List TNode)) (u5 : (List TOpen_)) (u6 : (List UInt8)) (v1 : Str × Str) (v2 : Str × Str × Bool) (y3 : Str × (List TDecl) × (List TAttr)) : Le (parse_reader_start_s35_b1_e u2 u3 u4 u5 u6 v1 v2 y3) (parse_reader_start_s35_b1 u2 u3 u4 u5 u6 v1 v2 y3) := by
  unfold parse_reader_start_s35_b1_e parse_reader_start_s35_b1
  repeat' first | apply parse_reader_blanks_s23_le | apply parse_reader_enter_s44_le | apply parse_reader_mark_s39_le | with_reducible refine Le.iter (fun _ => ?_) _ _ | with_reducible refine Le.bind ?_ ?_ | with_reducible refine Le.sum ?_ ?_ | with_reducible refine Le.sum ?_ ?_ _ | with_reducible refine Le.bif _ ?_ ?_ | with_reducible exact Le.refl _ | intro _
noncomputable def parse_reader_start_s35_e (u1 : Str) (u2 : Bool) (u3 : Bool) (u4 : (List TNode)) (u5 : (List TOpen_)) (u6 : (List UInt8)) : Option (Bool × Str × Bool × (List TNode) × (List TOpen_) × (List UInt8)) :=
  (parse_reader_word_s36_e u1 u2 u3 u4 u5 u6).bind fun v1 => (name_Split_e v1.1).bind fun v2 => (bif (!v2.2.2) then some (false, v1.2, u2, u4, u5, u6) else (iterN (parse_reader_start_s35_b1_e u2 u3 u4 u5 u6 v1 v2) 100000 (v1.2, [], [])).bind (fun (q12 : Bool × Str × Bool × (List TNode) × (List TOpen_) × (List UInt8)) => some (q12.1, q12.2.1, q12.2.2.1, q12.2.2.2.1, q12.2.2.2.2.1, q12.2.2.2.2.2)))
theorem parse_reader_start_s35_le (u1 : Str) (u2 : Bool) (u3 : Bool) (u4 : (List TNode)) (u5 : (List TOpen_)) (u6 : (List UInt8)) : Le (parse_reader_start_s35_e u1 u2 u3 u4 u5 u6) (parse_reader_start_s35 u1 u2 u3 u4 u5 u6) := by
  unfold parse_reader_start_s35_e parse_reader_start_s35
  repeat' first | apply name_Split_le | apply parse_reader_start_s35_b1_le | apply parse_reader_word_s36_le | with_reducible refine Le.iter (fun _ => ?_) _ _ | with_reducible refine Le.bind ?_ ?_ | with_reducible refine Le.sum ?_ ?_ | with_reducible refine Le.sum ?_ ?_ _ | with_reducible refine Le.bif _ ?_ ?_ | with_reducible exact Le.refl _ | intro _
noncomputable def parse_reader_step_s24_e (u1 : Str) (u2 : Bool) (u3 : Bool) (u4 : (List TNode)) (u5 : (List TOpen_)) (u6 : (List UInt8)) : Option (Bool × Str × Bool × (List TNode) × (List TOpen_) × (List UInt8)) :=
  (parse_reader_take_s25 [60, 33, 45, 45] u1 u2 u3 u4 u5 u6).bind fun v1 => (bif v1.1 then (parse_reader_until_s26 [45, 45, 62] v1.2 u2 u3 u4 u5 u6).bind fun v2 => (parse_reader_put_s27 3 0 [] [] [] v2.1 v2.2.2 u2 u3 u4 u5 u6).bind fun v3 => some (v2.2.1, v2.2.2, v3.1, v3.2.1, u5, v3.2.2) else ((bif (decide ((u5.length : Int) > 0)) then (parse_reader_take_s25 [60, 33, 91, 67, 68, 65, 84, 65, 91] v1.2 u2 u3 u4 u5 u6).bind fun v4 => some (v4.1, v4.2) else some (false, v1.2)) : Option ((Bool × Str))).bind (fun (q5 : Bool × Str) => (bif q5.1 then (parse_reader_until_s26 [93, 93, 62] q5.2 u2 u3 u4 u5 u6).bind fun v6 => (strings_Builder_WriteString_s33 v6.1 v6.2.2 u2 u3 u4 u5 u6).bind fun v7 => some (v6.2.1, v6.2.2, false, u4, u5, v7.2) else (parse_reader_take_s25 [60, 63] q5.2 u2 u3 u4 u5 u6).bind fun v8 => (bif v8.1 then none else (parse_reader_take_s25 [60, 47] v8.2 u2 u3 u4 u5 u6).bind fun v9 => (bif v9.1 then none else (parse_reader_take_s25 [60] v9.2 u2 u3 u4 u5 u6).bind fun v10 => (bif v10.1 then (parse_reader_start_s35_e v10.2 u2 u3 u4 u5 u6).bind fun v11 => some (v11.1, v11.2.1, v11.2.2.1, v11.2.2.2.1, v11.2.2.2.2.1, v11.2.2.2.2.2) else none))))))
theorem parse_reader_step_s24_le (u1 : Str) (u2 : Bool) (u3 : Bool) (u4 : (List TNode)) (u5 : (List TOpen_)) (u6 : (List UInt8)) : Le (parse_reader_step_s24_e u1 u2 u3 u4 u5 u6) (parse_reader_step_s24 u1 u2 u3 u4 u5 u6) := by
  unfold parse_reader_step_s24_e parse_reader_step_s24
  repeat' first | apply parse_reader_start_s35_le | with_reducible refine Le.iter (fun _ => ?_) _ _ | with_reducible refine Le.bind ?_ ?_ | with_reducible refine Le.sum ?_ ?_ | with_reducible refine Le.sum ?_ ?_ _ | with_reducible refine Le.bif _ ?_ ?_ | with_reducible exact Le.refl _ | intro _
noncomputable def parse_Parse_b1_e (y4 : Str × Bool × (List TNode) × (List TOpen_) × (List UInt8)) : Option ((Str × Bool × (List TNode) × (List TOpen_) × (List UInt8)) ⊕ (Unit ⊕ (Str × Bool × (List TNode) × (List TOpen_) × (List UInt8)))) :=
  (bif (!(y4.1 == [])) then (parse_reader_step_s24_e y4.1 y4.2.1 false y4.2.2.1 y4.2.2.2.1 y4.2.2.2.2).bind fun v5 => (bif (!v5.1) then some (.inr (Sum.inl ())) else some (.inl (v5.2.1, v5.2.2.1, v5.2.2.2.1, v5.2.2.2.2.1, v5.2.2.2.2.2))) else some (.inr (Sum.inr (y4.1, y4.2.1, y4.2.2.1, y4.2.2.2.1, y4.2.2.2.2))))
theorem parse_Parse_b1_le (y4 : Str × Bool × (List TNode) × (List TOpen_) × (List UInt8)) : Le (parse_Parse_b1_e y4) (parse_Parse_b1 y4) := by
  unfold parse_Parse_b1_e parse_Parse_b1
  repeat' first | apply parse_reader_step_s24_le | with_reducible refine Le.iter (fun _ => ?_) _ _ | with_reducible refine Le.bind ?_ ?_ | with_reducible refine Le.sum ?_ ?_ | with_reducible refine Le.sum ?_ ?_ _ | with_reducible refine Le.bif _ ?_ ?_ | with_reducible exact Le.refl _ | intro _
noncomputable def parse_Parse_e (b : (List UInt8)) : Option ((Option TDoc) × Int) :=
  (bif (decide ((b.length : Int) > 65536)) then some (none, 3) else (utf_Text_e b).bind fun v1 => (bif (!v1) then some (none, 2) else (chars_Lines_e b).bind fun v2 => (parse_reader_declaration_s22_e v2 true false [(TNode.mk 0 (-1) [] [] [] [] [] [])] [] []).bind fun v3 => (bif (!v3.1) then some (none, 2) else (iterN (parse_Parse_b1_e) 100000 (v3.2, true, [(TNode.mk 0 (-1) [] [] [] [] [] [])], [], [])).bind (Sum.elim (fun (q6 : Unit) => some (none, 2)) (fun (q7 : Str × Bool × (List TNode) × (List TOpen_) × (List UInt8)) => (bif (decide ((q7.2.2.2.1.length : Int) > 0)) then some (none, 2) else (doc_Of_e q7.2.2.1).bind fun v8 => some (v8.1, v8.2)))))))
theorem parse_Parse_le (b : (List UInt8)) : Le (parse_Parse_e b) (parse_Parse b) := by
  unfold parse_Parse_e parse_Parse
  repeat' first | apply chars_Lines_le | apply doc_Of_le | apply parse_Parse_b1_le | apply parse_reader_declaration_s22_le | apply utf_Text_le | with_reducible refine Le.iter (fun _ => ?_) _ _ | with_reducible refine Le.bind ?_ ?_ | with_reducible refine Le.sum ?_ ?_ | with_reducible refine Le.sum ?_ ?_ _ | with_reducible refine Le.bif _ ?_ ?_ | with_reducible exact Le.refl _ | intro _
noncomputable def doc_Doc_Up_e (d : (Option TDoc)) (n : Int) : Option (List Int) :=
  (doc_Doc_has d n).bind fun v1 => (bif (!v1) then some [] else (d).bind fun v2 => (at' v2.l n).bind fun v3 => (iterN (doc_Doc_Up_b1 d) 100000 (v3.Parent, [])).bind (fun (q8 : (List Int)) => some q8))
theorem doc_Doc_Up_le (d : (Option TDoc)) (n : Int) : Le (doc_Doc_Up_e d n) (doc_Doc_Up d n) := by
  unfold doc_Doc_Up_e doc_Doc_Up
  repeat' first | with_reducible refine Le.iter (fun _ => ?_) _ _ | with_reducible refine Le.bind ?_ ?_ | with_reducible refine Le.sum ?_ ?_ | with_reducible refine Le.sum ?_ ?_ _ | with_reducible refine Le.bif _ ?_ ?_ | with_reducible exact Le.refl _ | intro _
noncomputable def slices_insertionSortCmpFunc_Decl_b2_e (a : Int) (cmp : (TDecl → TDecl → Option Int)) (y2 : Int × (List TDecl)) : Option ((Int × (List TDecl)) ⊕ (List TDecl)) :=
  ((bif (decide (y2.1 > a)) then (at' y2.2 y2.1).bind fun v3 => (at' y2.2 (w64 (y2.1 - 1))).bind fun v4 => (cmp v3 v4).bind fun v5 => some (decide (v5 < 0)) else some false) : Option (Bool)).bind (fun (q6 : Bool) => (bif q6 then (at' y2.2 (w64 (y2.1 - 1))).bind fun v7 => (at' y2.2 y2.1).bind fun v8 => (at' y2.2 y2.1).bind fun v9 => (put y2.2 y2.1 v7).bind fun v10 => (at' v10 (w64 (y2.1 - 1))).bind fun v11 => (put v10 (w64 (y2.1 - 1)) v8).bind fun v12 => some (.inl ((w64 (y2.1 - 1)), v12)) else some (.inr y2.2)))
theorem slices_insertionSortCmpFunc_Decl_b2_le (a : Int) (cmp : (TDecl → TDecl → Option Int)) (y2 : Int × (List TDecl)) (cmp' : (TDecl → TDecl → Option Int)) (h_cmp : ∀ x0 x1, Le (cmp x0 x1) (cmp' x0 x1)) : Le (slices_insertionSortCmpFunc_Decl_b2_e a cmp y2) (slices_insertionSortCmpFunc_Decl_b2 a cmp' y2) := by
  unfold slices_insertionSortCmpFunc_Decl_b2_e slices_insertionSortCmpFunc_Decl_b2
  repeat' first | apply h_cmp | with_reducible refine Le.iter (fun _ => ?_) _ _ | with_reducible refine Le.bind ?_ ?_ | with_reducible refine Le.sum ?_ ?_ | with_reducible refine Le.sum ?_ ?_ _ | with_reducible refine Le.bif _ ?_ ?_ | with_reducible exact Le.refl _ | intro _
noncomputable def slices_insertionSortCmpFunc_Decl_b1_e (a : Int) (b : Int) (cmp : (TDecl → TDecl → Option Int)) (y1 : Int × (List TDecl)) : Option ((Int × (List TDecl)) ⊕ (List TDecl)) :=
  (bif (decide (y1.1 < b)) then (iterN (slices_insertionSortCmpFunc_Decl_b2_e a cmp) 100000 (y1.1, y1.2)).bind (fun (q13 : (List TDecl)) => some (.inl ((w64 (y1.1 + 1)), q13))) else some (.inr y1.2))
theorem slices_insertionSortCmpFunc_Decl_b1_le (a : Int) (b : Int) (cmp : (TDecl → TDecl → Option Int)) (y1 : Int × (List TDecl)) (cmp' : (TDecl → TDecl → Option Int)) (h_cmp : ∀ x0 x1, Le (cmp x0 x1) (cmp' x0 x1)) : Le (slices_insertionSortCmpFunc_Decl_b1_e a b cmp y1) (slices_insertionSortCmpFunc_Decl_b1 a b cmp' y1) := by
  unfold slices_insertionSortCmpFunc_Decl_b1_e slices_insertionSortCmpFunc_Decl_b1
  repeat' first | apply h_cmp | apply slices_insertionSortCmpFunc_Decl_b2_le | with_reducible refine Le.iter (fun _ => ?_) _ _ | with_reducible refine Le.bind ?_ ?_ | with_reducible refine Le.sum ?_ ?_ | with_reducible refine Le.sum ?_ ?_ _ | with_reducible refine Le.bif _ ?_ ?_ | with_reducible exact Le.refl _ | intro _
noncomputable def slices_insertionSortCmpFunc_Decl_e (data : (List TDecl)) (a : Int) (b : Int) (cmp : (TDecl → TDecl → Option Int)) : Option (List TDecl) :=
  (iterN (slices_insertionSortCmpFunc_Decl_b1_e a b cmp) 100000 ((w64 (a + 1)), data)).bind (fun (q14 : (List TDecl)) => some q14)
theorem slices_insertionSortCmpFunc_Decl_le (data : (List TDecl)) (a : Int) (b : Int) (cmp : (TDecl → TDecl → Option Int)) (cmp' : (TDecl → TDecl → Option Int)) (h_cmp : ∀ x0 x1, Le (cmp x0 x1) (cmp' x0 x1)) : Le (slices_insertionSortCmpFunc_Decl_e data a b cmp) (slices_insertionSortCmpFunc_Decl data a b cmp') := by
  unfold slices_insertionSortCmpFunc_Decl_e slices_insertionSortCmpFunc_Decl
  repeat' first | apply h_cmp | apply slices_insertionSortCmpFunc_Decl_b1_le | with_reducible refine Le.iter (fun _ => ?_) _ _ | with_reducible refine Le.bind ?_ ?_ | with_reducible refine Le.sum ?_ ?_ | with_reducible refine Le.sum ?_ ?_ _ | with_reducible refine Le.bif _ ?_ ?_ | with_reducible exact Le.refl _ | intro _
noncomputable def slices_symMergeCmpFunc_Decl_e (data : (List TDecl)) (a : Int) (m : Int) (b : Int) (cmp : (TDecl → TDecl → Option Int)) : Option (List TDecl) :=
  none
theorem slices_symMergeCmpFunc_Decl_le (data : (List TDecl)) (a : Int) (m : Int) (b : Int) (cmp : (TDecl → TDecl → Option Int)) (cmp' : (TDecl → TDecl → Option Int)) (h_cmp : ∀ x0 x1, Le (cmp x0 x1) (cmp' x0 x1)) : Le (slices_symMergeCmpFunc_Decl_e data a m b cmp) (slices_symMergeCmpFunc_Decl data a m b cmp') := fun _ h => by cases h
noncomputable def slices_stableCmpFunc_Decl_b1_e (n : Int) (cmp : (TDecl → TDecl → Option Int)) (y1 : Int × Int × (List TDecl)) : Option ((Int × Int × (List TDecl)) ⊕ (Int × (List TDecl))) :=
  (bif (decide (y1.2.1 ≤ n)) then (slices_insertionSortCmpFunc_Decl_e y1.2.2 y1.1 y1.2.1 cmp).bind fun v2 => (eqn v2.length y1.2.2.length).bind fun _ => some (.inl (y1.2.1, (w64 (y1.2.1 + 20)), v2)) else some (.inr (y1.1, y1.2.2)))
theorem slices_stableCmpFunc_Decl_b1_le (n : Int) (cmp : (TDecl → TDecl → Option Int)) (y1 : Int × Int × (List TDecl)) (cmp' : (TDecl → TDecl → Option Int)) (h_cmp : ∀ x0 x1, Le (cmp x0 x1) (cmp' x0 x1)) : Le (slices_stableCmpFunc_Decl_b1_e n cmp y1) (slices_stableCmpFunc_Decl_b1 n cmp' y1) := by
  unfold slices_stableCmpFunc_Decl_b1_e slices_stableCmpFunc_Decl_b1
  repeat' first | apply h_cmp | apply slices_insertionSortCmpFunc_Decl_le | with_reducible refine Le.iter (fun _ => ?_) _ _ | with_reducible refine Le.bind ?_ ?_ | with_reducible refine Le.sum ?_ ?_ | with_reducible refine Le.sum ?_ ?_ _ | with_reducible refine Le.bif _ ?_ ?_ | with_reducible exact Le.refl _ | intro _
noncomputable def slices_stableCmpFunc_Decl_b3_e (n : Int) (cmp : (TDecl → TDecl → Option Int)) (y6 : Int × (List TDecl)) (y7 : Int × Int × (List TDecl)) : Option ((Int × Int × (List TDecl)) ⊕ (Int × (List TDecl))) :=
  (bif (decide (y7.2.1 ≤ n)) then (slices_symMergeCmpFunc_Decl_e y7.2.2 y7.1 (w64 (y7.1 + y6.1)) y7.2.1 cmp).bind fun v8 => (eqn v8.length y7.2.2.length).bind fun _ => some (.inl (y7.2.1, (w64 (y7.2.1 + (w64 (2 * y6.1)))), v8)) else some (.inr (y7.1, y7.2.2)))
theorem slices_stableCmpFunc_Decl_b3_le (n : Int) (cmp : (TDecl → TDecl → Option Int)) (y6 : Int × (List TDecl)) (y7 : Int × Int × (List TDecl)) (cmp' : (TDecl → TDecl → Option Int)) (h_cmp : ∀ x0 x1, Le (cmp x0 x1) (cmp' x0 x1)) : Le (slices_stableCmpFunc_Decl_b3_e n cmp y6 y7) (slices_stableCmpFunc_Decl_b3 n cmp' y6 y7) := by
  unfold slices_stableCmpFunc_Decl_b3_e slices_stableCmpFunc_Decl_b3
  repeat' first | apply h_cmp | apply slices_symMergeCmpFunc_Decl_le | with_reducible refine Le.iter (fun _ => ?_) _ _ | with_reducible refine Le.bind ?_ ?_ | with_reducible refine Le.sum ?_ ?_ | with_reducible refine Le.sum ?_ ?_ _ | with_reducible refine Le.bif _ ?_ ?_ | with_reducible exact Le.refl _ | intro _
noncomputable def slices_stableCmpFunc_Decl_b2_e (n : Int) (cmp : (TDecl → TDecl → Option Int)) (y6 : Int × (List TDecl)) : Option ((Int × (List TDecl)) ⊕ (List TDecl)) :=
  (bif (decide (y6.1 < n)) then (iterN (slices_stableCmpFunc_Decl_b3_e n cmp y6) 100000 (0, (w64 (2 * y6.1)), y6.2)).bind (fun (q10 : Int × (List TDecl)) => (bif (decide ((w64 (q10.1 + y6.1)) < n)) then (slices_symMergeCmpFunc_Decl_e q10.2 q10.1 (w64 (q10.1 + y6.1)) n cmp).bind fun v11 => (eqn v11.length q10.2.length).bind fun _ => some (.inl ((w64 (y6.1 * 2)), v11)) else some (.inl ((w64 (y6.1 * 2)), q10.2)))) else some (.inr y6.2))
theorem slices_stableCmpFunc_Decl_b2_le (n : Int) (cmp : (TDecl → TDecl → Option Int)) (y6 : Int × (List TDecl)) (cmp' : (TDecl → TDecl → Option Int)) (h_cmp : ∀ x0 x1, Le (cmp x0 x1) (cmp' x0 x1)) : Le (slices_stableCmpFunc_Decl_b2_e n cmp y6) (slices_stableCmpFunc_Decl_b2 n cmp' y6) := by
  unfold slices_stableCmpFunc_Decl_b2_e slices_stableCmpFunc_Decl_b2
  repeat' first | apply h_cmp | apply slices_stableCmpFunc_Decl_b3_le | apply slices_symMergeCmpFunc_Decl_le | with_reducible refine Le.iter (fun _ => ?_) _ _ | with_reducible refine Le.bind ?_ ?_ | with_reducible refine Le.sum ?_ ?_ | with_reducible refine Le.sum ?_ ?_ _ | with_reducible refine Le.bif _ ?_ ?_ | with_reducible exact Le.refl _ | intro _
noncomputable def slices_stableCmpFunc_Decl_e (data : (List TDecl)) (n : Int) (cmp : (TDecl → TDecl → Option Int)) : Option (List TDecl) :=
  (iterN (slices_stableCmpFunc_Decl_b1_e n cmp) 100000 (0, 20, data)).bind (fun (q4 : Int × (List TDecl)) => (slices_insertionSortCmpFunc_Decl_e q4.2 q4.1 n cmp).bind fun v5 => (eqn v5.length q4.2.length).bind fun _ => (iterN (slices_stableCmpFunc_Decl_b2_e n cmp) 100000 (20, v5)).bind (fun (q13 : (List TDecl)) => some q13))
theorem slices_stableCmpFunc_Decl_le (data : (List TDecl)) (n : Int) (cmp : (TDecl → TDecl → Option Int)) (cmp' : (TDecl → TDecl → Option Int)) (h_cmp : ∀ x0 x1, Le (cmp x0 x1) (cmp' x0 x1)) : Le (slices_stableCmpFunc_Decl_e data n cmp) (slices_stableCmpFunc_Decl data n cmp') := by
  unfold slices_stableCmpFunc_Decl_e slices_stableCmpFunc_Decl
  repeat' first | apply h_cmp | apply slices_insertionSortCmpFunc_Decl_le | apply slices_stableCmpFunc_Decl_b1_le | apply slices_stableCmpFunc_Decl_b2_le | with_reducible refine Le.iter (fun _ => ?_) _ _ | with_reducible refine Le.bind ?_ ?_ | with_reducible refine Le.sum ?_ ?_ | with_reducible refine Le.sum ?_ ?_ _ | with_reducible refine Le.bif _ ?_ ?_ | with_reducible exact Le.refl _ | intro _
noncomputable def slices_SortStableFunc_Decl_e (x : (List TDecl)) (cmp : (TDecl → TDecl → Option Int)) : Option (List TDecl) :=
  (slices_stableCmpFunc_Decl_e x (x.length : Int) cmp).bind fun v1 => (eqn v1.length x.length).bind fun _ => some v1
theorem slices_SortStableFunc_Decl_le (x : (List TDecl)) (cmp : (TDecl → TDecl → Option Int)) (cmp' : (TDecl → TDecl → Option Int)) (h_cmp : ∀ x0 x1, Le (cmp x0 x1) (cmp' x0 x1)) : Le (slices_SortStableFunc_Decl_e x cmp) (slices_SortStableFunc_Decl x cmp') := by
  unfold slices_SortStableFunc_Decl_e slices_SortStableFunc_Decl
  repeat' first | apply h_cmp | apply slices_stableCmpFunc_Decl_le | with_reducible refine Le.iter (fun _ => ?_) _ _ | with_reducible refine Le.bind ?_ ?_ | with_reducible refine Le.sum ?_ ?_ | with_reducible refine Le.sum ?_ ?_ _ | with_reducible refine Le.bif _ ?_ ?_ | with_reducible exact Le.refl _ | intro _
noncomputable def cmp_Or_int_e (vals : (List Int)) : Option Int :=
  (iterN (cmp_Or_int_b1 vals) 100000 0).bind (Sum.elim (fun (q3 : Int) => some q3) (fun (q4 : Unit) => some 0))
theorem cmp_Or_int_le (vals : (List Int)) : Le (cmp_Or_int_e vals) (cmp_Or_int vals) := by
  unfold cmp_Or_int_e cmp_Or_int
  repeat' first | with_reducible refine Le.iter (fun _ => ?_) _ _ | with_reducible refine Le.bind ?_ ?_ | with_reducible refine Le.sum ?_ ?_ | with_reducible refine Le.sum ?_ ?_ _ | with_reducible refine Le.bif _ ?_ ?_ | with_reducible exact Le.refl _ | intro _
noncomputable def space_Sorted_c1_e (a : TDecl) (b : TDecl) : Option Int :=
  (cmp_Compare_string a.Prefix b.Prefix).bind fun v1 => (cmp_Compare_string a.URI b.URI).bind fun v2 => (cmp_Or_int_e [v1, v2]).bind fun v3 => some v3
theorem space_Sorted_c1_le (a : TDecl) (b : TDecl) : Le (space_Sorted_c1_e a b) (space_Sorted_c1 a b) := by
  unfold space_Sorted_c1_e space_Sorted_c1
  repeat' first | apply cmp_Or_int_le | with_reducible refine Le.iter (fun _ => ?_) _ _ | with_reducible refine Le.bind ?_ ?_ | with_reducible refine Le.sum ?_ ?_ | with_reducible refine Le.sum ?_ ?_ _ | with_reducible refine Le.bif _ ?_ ?_ | with_reducible exact Le.refl _ | intro _
noncomputable def space_Sorted_e (l : (List TDecl)) : Option (List TDecl) :=
  (slices_Clone_Decl l).bind fun v1 => (slices_SortStableFunc_Decl_e v1 (fun x0 x1 => space_Sorted_c1_e x0 x1)).bind fun v2 => (eqn v2.length v1.length).bind fun _ => some v2
theorem space_Sorted_le (l : (List TDecl)) : Le (space_Sorted_e l) (space_Sorted l) := by
  unfold space_Sorted_e space_Sorted
  repeat' first | apply slices_SortStableFunc_Decl_le | apply space_Sorted_c1_le | with_reducible refine Le.iter (fun _ => ?_) _ _ | with_reducible refine Le.bind ?_ ?_ | with_reducible refine Le.sum ?_ ?_ | with_reducible refine Le.sum ?_ ?_ _ | with_reducible refine Le.bif _ ?_ ?_ | with_reducible exact Le.refl _ | intro _
noncomputable def space_Scope_b1_e (d : (Option TDoc)) (v3 : (List Int)) (y4 : Int × (List (Str × Bool)) × (List TDecl)) : Option ((Int × (List (Str × Bool)) × (List TDecl)) ⊕ (List TDecl)) :=
  (bif (decide (y4.1 < (v3.length : Int))) then (at' v3 y4.1).bind fun v5 => (doc_Doc_Node d v5).bind fun v6 => (iterN (space_Scope_b2 v6) 100000 (0, y4.2.1, y4.2.2)).bind (fun (q10 : (List (Str × Bool)) × (List TDecl)) => some (.inl ((w64 (y4.1 + 1)), q10.1, q10.2))) else some (.inr y4.2.2))
theorem space_Scope_b1_le (d : (Option TDoc)) (v3 : (List Int)) (y4 : Int × (List (Str × Bool)) × (List TDecl)) : Le (space_Scope_b1_e d v3 y4) (space_Scope_b1 d v3 y4) := by
  unfold space_Scope_b1_e space_Scope_b1
  repeat' first | with_reducible refine Le.iter (fun _ => ?_) _ _ | with_reducible refine Le.bind ?_ ?_ | with_reducible refine Le.sum ?_ ?_ | with_reducible refine Le.sum ?_ ?_ _ | with_reducible refine Le.bif _ ?_ ?_ | with_reducible exact Le.refl _ | intro _
noncomputable def space_Scope_e (d : (Option TDoc)) (n : Int) : Option (List TDecl) :=
  (doc_Doc_Node d n).bind fun v1 => (bif (v1.Kind != 1) then some [] else (doc_Doc_Up_e d n).bind fun v2 => (slices_Insert_int v2 0 [n]).bind fun v3 => (iterN (space_Scope_b1_e d v3) 100000 (0, (mput [] [120, 109, 108] true), [(TDecl.mk [120, 109, 108] [104, 116, 116, 112, 58, 47, 47, 119, 119, 119, 46, 119, 51, 46, 111, 114, 103, 47, 88, 77, 76, 47, 49, 57, 57, 56, 47, 110, 97, 109, 101, 115, 112, 97, 99, 101])])).bind (fun (q11 : (List TDecl)) => (space_Sorted_e q11).bind fun v12 => some v12))
theorem space_Scope_le (d : (Option TDoc)) (n : Int) : Le (space_Scope_e d n) (space_Scope d n) := by
  unfold space_Scope_e space_Scope
  repeat' first | apply doc_Doc_Up_le | apply space_Scope_b1_le | apply space_Sorted_le | with_reducible refine Le.iter (fun _ => ?_) _ _ | with_reducible refine Le.bind ?_ ?_ | with_reducible refine Le.sum ?_ ?_ | with_reducible refine Le.sum ?_ ?_ _ | with_reducible refine Le.bif _ ?_ ?_ | with_reducible exact Le.refl _ | intro _
noncomputable def point_some_e (n : Int) (part : Int) (many : Int) : Option (List TPoint) :=
  (iterN (point_some_b1 n part many) 100000 (0, [])).bind (fun (q3 : (List TPoint)) => some q3)
theorem point_some_le (n : Int) (part : Int) (many : Int) : Le (point_some_e n part many) (point_some n part many) := by
  unfold point_some_e point_some
  repeat' first | with_reducible refine Le.iter (fun _ => ?_) _ _ | with_reducible refine Le.bind ?_ ?_ | with_reducible refine Le.sum ?_ ?_ | with_reducible refine Le.sum ?_ ?_ _ | with_reducible refine Le.bif _ ?_ ?_ | with_reducible exact Le.refl _ | intro _
noncomputable def point_Spaces_e (d : (Option TDoc)) (n : Int) : Option (List TPoint) :=
  (space_Scope_e d n).bind fun v1 => (point_some_e n 1 (v1.length : Int)).bind fun v2 => some v2
theorem point_Spaces_le (d : (Option TDoc)) (n : Int) : Le (point_Spaces_e d n) (point_Spaces d n) := by
  unfold point_Spaces_e point_Spaces
  repeat' first | apply point_some_le | apply space_Scope_le | with_reducible refine Le.iter (fun _ => ?_) _ _ | with_reducible refine Le.bind ?_ ?_ | with_reducible refine Le.sum ?_ ?_ | with_reducible refine Le.sum ?_ ?_ _ | with_reducible refine Le.bif _ ?_ ?_ | with_reducible exact Le.refl _ | intro _
noncomputable def point_Marks_e (d : (Option TDoc)) (n : Int) : Option (List TPoint) :=
  (doc_Doc_Node d n).bind fun v1 => (point_some_e n 2 (v1.Attrs.length : Int)).bind fun v2 => some v2
theorem point_Marks_le (d : (Option TDoc)) (n : Int) : Le (point_Marks_e d n) (point_Marks d n) := by
  unfold point_Marks_e point_Marks
  repeat' first | apply point_some_le | with_reducible refine Le.iter (fun _ => ?_) _ _ | with_reducible refine Le.bind ?_ ?_ | with_reducible refine Le.sum ?_ ?_ | with_reducible refine Le.sum ?_ ?_ _ | with_reducible refine Le.bif _ ?_ ?_ | with_reducible exact Le.refl _ | intro _
noncomputable def point_Has_e (d : (Option TDoc)) (p : TPoint) : Option Bool :=
  ((bif (decide (p.N < 0)) then some true else (doc_Doc_Len d).bind fun v1 => (bif (decide (p.N ≥ v1)) then some true else some (decide (p.I < 0)))) : Option (Bool)).bind (fun (q2 : Bool) => (bif q2 then some false else (bif (p.Part == 0) then some (p.I == 0) else (bif (p.Part == 1) then (space_Scope_e d p.N).bind fun v3 => some (decide (p.I < (v3.length : Int))) else (bif (p.Part == 2) then (doc_Doc_Node d p.N).bind fun v4 => some (decide (p.I < (v4.Attrs.length : Int))) else some false)))))
theorem point_Has_le (d : (Option TDoc)) (p : TPoint) : Le (point_Has_e d p) (point_Has d p) := by
  unfold point_Has_e point_Has
  repeat' first | apply space_Scope_le | with_reducible refine Le.iter (fun _ => ?_) _ _ | with_reducible refine Le.bind ?_ ?_ | with_reducible refine Le.sum ?_ ?_ | with_reducible refine Le.sum ?_ ?_ _ | with_reducible refine Le.bif _ ?_ ?_ | with_reducible exact Le.refl _ | intro _
noncomputable def axis_list_e (l : (List Int)) : Option (List TPoint) :=
  (iterN (axis_list_b1 l) 100000 (0, [])).bind (fun (q4 : (List TPoint)) => some q4)
theorem axis_list_le (l : (List Int)) : Le (axis_list_e l) (axis_list l) := by
  unfold axis_list_e axis_list
  repeat' first | with_reducible refine Le.iter (fun _ => ?_) _ _ | with_reducible refine Le.bind ?_ ?_ | with_reducible refine Le.sum ?_ ?_ | with_reducible refine Le.sum ?_ ?_ _ | with_reducible refine Le.bif _ ?_ ?_ | with_reducible exact Le.refl _ | intro _
noncomputable def axis_above_e (d : (Option TDoc)) (p : TPoint) : Option (List TPoint) :=
  (doc_Doc_Up_e d p.N).bind fun v1 => (axis_list_e v1).bind fun v2 => (bif (p.Part != 0) then (slices_Insert_Point v2 0 [(TPoint.mk p.N 0 0)]).bind fun v3 => some v3 else some v2)
theorem axis_above_le (d : (Option TDoc)) (p : TPoint) : Le (axis_above_e d p) (axis_above d p) := by
  unfold axis_above_e axis_above
  repeat' first | apply axis_list_le | apply doc_Doc_Up_le | with_reducible refine Le.iter (fun _ => ?_) _ _ | with_reducible refine Le.bind ?_ ?_ | with_reducible refine Le.sum ?_ ?_ | with_reducible refine Le.sum ?_ ?_ _ | with_reducible refine Le.bif _ ?_ ?_ | with_reducible exact Le.refl _ | intro _
noncomputable def point_Parent_e (d : (Option TDoc)) (p : TPoint) : Option (TPoint × Bool) :=
  (point_Has_e d p).bind fun v1 => (bif (!v1) then some ((TPoint.mk 0 0 0), false) else (bif (p.Part != 0) then some ((TPoint.mk p.N 0 0), true) else (bif (p.N == 0) then some ((TPoint.mk 0 0 0), false) else (doc_Doc_Node d p.N).bind fun v2 => some ((TPoint.mk v2.Parent 0 0), true))))
theorem point_Parent_le (d : (Option TDoc)) (p : TPoint) : Le (point_Parent_e d p) (point_Parent d p) := by
  unfold point_Parent_e point_Parent
  repeat' first | apply point_Has_le | with_reducible refine Le.iter (fun _ => ?_) _ _ | with_reducible refine Le.bind ?_ ?_ | with_reducible refine Le.sum ?_ ?_ | with_reducible refine Le.sum ?_ ?_ _ | with_reducible refine Le.bif _ ?_ ?_ | with_reducible exact Le.refl _ | intro _
noncomputable def doc_Doc_Kids_e (d : (Option TDoc)) (n : Int) : Option (List Int) :=
  (doc_Doc_has d n).bind fun v1 => (bif (!v1) then some [] else (iterN (doc_Doc_Kids_b1 d n) 100000 ((w64 (n + 1)), [])).bind (fun (q8 : (List Int)) => some q8))
theorem doc_Doc_Kids_le (d : (Option TDoc)) (n : Int) : Le (doc_Doc_Kids_e d n) (doc_Doc_Kids d n) := by
  unfold doc_Doc_Kids_e doc_Doc_Kids
  repeat' first | with_reducible refine Le.iter (fun _ => ?_) _ _ | with_reducible refine Le.bind ?_ ?_ | with_reducible refine Le.sum ?_ ?_ | with_reducible refine Le.sum ?_ ?_ _ | with_reducible refine Le.bif _ ?_ ?_ | with_reducible exact Le.refl _ | intro _
noncomputable def slices_IndexFunc_int_b1_e (s : (List Int)) (f : (Int → Option Bool)) (y1 : Int) : Option (Int ⊕ (Int ⊕ Unit)) :=
  (bif (decide (y1 < (s.length : Int))) then (at' s y1).bind fun v2 => (f v2).bind fun v3 => (bif v3 then some (.inr (Sum.inl y1)) else some (.inl (w64 (y1 + 1)))) else some (.inr (Sum.inr ())))
theorem slices_IndexFunc_int_b1_le (s : (List Int)) (f : (Int → Option Bool)) (y1 : Int) (f' : (Int → Option Bool)) (h_f : ∀ x0, Le (f x0) (f' x0)) : Le (slices_IndexFunc_int_b1_e s f y1) (slices_IndexFunc_int_b1 s f' y1) := by
  unfold slices_IndexFunc_int_b1_e slices_IndexFunc_int_b1
  repeat' first | apply h_f | with_reducible refine Le.iter (fun _ => ?_) _ _ | with_reducible refine Le.bind ?_ ?_ | with_reducible refine Le.sum ?_ ?_ | with_reducible refine Le.sum ?_ ?_ _ | with_reducible refine Le.bif _ ?_ ?_ | with_reducible exact Le.refl _ | intro _
noncomputable def slices_IndexFunc_int_e (s : (List Int)) (f : (Int → Option Bool)) : Option Int :=
  (iterN (slices_IndexFunc_int_b1_e s f) 100000 0).bind (Sum.elim (fun (q4 : Int) => some q4) (fun (q5 : Unit) => some (-1)))
theorem slices_IndexFunc_int_le (s : (List Int)) (f : (Int → Option Bool)) (f' : (Int → Option Bool)) (h_f : ∀ x0, Le (f x0) (f' x0)) : Le (slices_IndexFunc_int_e s f) (slices_IndexFunc_int s f') := by
  unfold slices_IndexFunc_int_e slices_IndexFunc_int
  repeat' first | apply h_f | apply slices_IndexFunc_int_b1_le | with_reducible refine Le.iter (fun _ => ?_) _ _ | with_reducible refine Le.bind ?_ ?_ | with_reducible refine Le.sum ?_ ?_ | with_reducible refine Le.sum ?_ ?_ _ | with_reducible refine Le.bif _ ?_ ?_ | with_reducible exact Le.refl _ | intro _
noncomputable def slices_DeleteFunc_int_b1_e (del : (Int → Option Bool)) (y2 : Int × Int × (List Int)) : Option ((Int × Int × (List Int)) ⊕ (Int × (List Int))) :=
  (bif (decide (y2.2.1 < (y2.2.2.length : Int))) then (at' y2.2.2 y2.2.1).bind fun v3 => (del v3).bind fun v4 => (bif (!v4) then (at' y2.2.2 y2.1).bind fun v5 => (put y2.2.2 y2.1 v3).bind fun v6 => some (.inl ((w64 (y2.1 + 1)), (w64 (y2.2.1 + 1)), v6)) else some (.inl (y2.1, (w64 (y2.2.1 + 1)), y2.2.2))) else some (.inr (y2.1, y2.2.2)))
theorem slices_DeleteFunc_int_b1_le (del : (Int → Option Bool)) (y2 : Int × Int × (List Int)) (del' : (Int → Option Bool)) (h_del : ∀ x0, Le (del x0) (del' x0)) : Le (slices_DeleteFunc_int_b1_e del y2) (slices_DeleteFunc_int_b1 del' y2) := by
  unfold slices_DeleteFunc_int_b1_e slices_DeleteFunc_int_b1
  repeat' first | apply h_del | with_reducible refine Le.iter (fun _ => ?_) _ _ | with_reducible refine Le.bind ?_ ?_ | with_reducible refine Le.sum ?_ ?_ | with_reducible refine Le.sum ?_ ?_ _ | with_reducible refine Le.bif _ ?_ ?_ | with_reducible exact Le.refl _ | intro _
noncomputable def slices_DeleteFunc_int_e (s : (List Int)) (del : (Int → Option Bool)) : Option (List Int) :=
  (slices_IndexFunc_int_e s del).bind fun v1 => (bif (v1 == (-1)) then some s else (iterN (slices_DeleteFunc_int_b1_e del) 100000 (v1, (w64 (v1 + 1)), s)).bind (fun (q7 : Int × (List Int)) => (rng (q7.2.length : Int) q7.1 (q7.2.length : Int)).bind fun _ => (clr q7.2 q7.1.toNat ((q7.2.length : Int).toNat - q7.1.toNat) 0).bind fun v8 => (rng (q7.2.length : Int) 0 q7.1).bind fun _ => (prt v8 0 q7.1.toNat).bind fun v9 => some v9))
theorem slices_DeleteFunc_int_le (s : (List Int)) (del : (Int → Option Bool)) (del' : (Int → Option Bool)) (h_del : ∀ x0, Le (del x0) (del' x0)) : Le (slices_DeleteFunc_int_e s del) (slices_DeleteFunc_int s del') := by
  unfold slices_DeleteFunc_int_e slices_DeleteFunc_int
  repeat' first | apply h_del | apply slices_DeleteFunc_int_b1_le | apply slices_IndexFunc_int_le | with_reducible refine Le.iter (fun _ => ?_) _ _ | with_reducible refine Le.bind ?_ ?_ | with_reducible refine Le.sum ?_ ?_ | with_reducible refine Le.sum ?_ ?_ _ | with_reducible refine Le.bif _ ?_ ?_ | with_reducible exact Le.refl _ | intro _
noncomputable def axis_beside_e (d : (Option TDoc)) (p : TPoint) (behind : Bool) : Option (List TPoint) :=
  (point_Parent_e d p).bind fun v1 => (bif (!v1.2) then some [] else (bif (p.Part != 0) then some [] else (doc_Doc_Kids_e d v1.1.N).bind fun v2 => (slices_DeleteFunc_int_e v2 (fun x0 => axis_beside_c1 x0 p behind)).bind fun v3 => (axis_list_e v3).bind fun v4 => some v4))
theorem axis_beside_le (d : (Option TDoc)) (p : TPoint) (behind : Bool) : Le (axis_beside_e d p behind) (axis_beside d p behind) := by
  unfold axis_beside_e axis_beside
  repeat' first | apply axis_list_le | apply doc_Doc_Kids_le | apply point_Parent_le | apply slices_DeleteFunc_int_le | with_reducible refine Le.iter (fun _ => ?_) _ _ | with_reducible refine Le.bind ?_ ?_ | with_reducible refine Le.sum ?_ ?_ | with_reducible refine Le.sum ?_ ?_ _ | with_reducible refine Le.bif _ ?_ ?_ | with_reducible exact Le.refl _ | intro _
noncomputable def slices_Index_int_e (s : (List Int)) (v_ : Int) : Option Int :=
  (iterN (slices_Index_int_b1 s v_) 100000 0).bind (Sum.elim (fun (q3 : Int) => some q3) (fun (q4 : Unit) => some (-1)))
theorem slices_Index_int_le (s : (List Int)) (v_ : Int) : Le (slices_Index_int_e s v_) (slices_Index_int s v_) := by
  unfold slices_Index_int_e slices_Index_int
  repeat' first | with_reducible refine Le.iter (fun _ => ?_) _ _ | with_reducible refine Le.bind ?_ ?_ | with_reducible refine Le.sum ?_ ?_ | with_reducible refine Le.sum ?_ ?_ _ | with_reducible refine Le.bif _ ?_ ?_ | with_reducible exact Le.refl _ | intro _
noncomputable def slices_Contains_int_e (s : (List Int)) (v_ : Int) : Option Bool :=
  (slices_Index_int_e s v_).bind fun v1 => some (decide (v1 ≥ 0))
theorem slices_Contains_int_le (s : (List Int)) (v_ : Int) : Le (slices_Contains_int_e s v_) (slices_Contains_int s v_) := by
  unfold slices_Contains_int_e slices_Contains_int
  repeat' first | apply slices_Index_int_le | with_reducible refine Le.iter (fun _ => ?_) _ _ | with_reducible refine Le.bind ?_ ?_ | with_reducible refine Le.sum ?_ ?_ | with_reducible refine Le.sum ?_ ?_ _ | with_reducible refine Le.bif _ ?_ ?_ | with_reducible exact Le.refl _ | intro _
noncomputable def axis_run_b1_e (to_ : Int) (but : (List Int)) (y1 : Int × (List TPoint)) : Option ((Int × (List TPoint)) ⊕ (List TPoint)) :=
  (bif (decide (y1.1 < to_)) then (slices_Contains_int_e but y1.1).bind fun v2 => (bif (!v2) then (app 24 y1.2 [(TPoint.mk y1.1 0 0)]).bind fun v3 => some (.inl ((w64 (y1.1 + 1)), v3)) else some (.inl ((w64 (y1.1 + 1)), y1.2))) else some (.inr y1.2))
theorem axis_run_b1_le (to_ : Int) (but : (List Int)) (y1 : Int × (List TPoint)) : Le (axis_run_b1_e to_ but y1) (axis_run_b1 to_ but y1) := by
  unfold axis_run_b1_e axis_run_b1
  repeat' first | apply slices_Contains_int_le | with_reducible refine Le.iter (fun _ => ?_) _ _ | with_reducible refine Le.bind ?_ ?_ | with_reducible refine Le.sum ?_ ?_ | with_reducible refine Le.sum ?_ ?_ _ | with_reducible refine Le.bif _ ?_ ?_ | with_reducible exact Le.refl _ | intro _
noncomputable def axis_run_e (from_ : Int) (to_ : Int) (but : (List Int)) : Option (List TPoint) :=
  (iterN (axis_run_b1_e to_ but) 100000 (from_, [])).bind (fun (q4 : (List TPoint)) => some q4)
theorem axis_run_le (from_ : Int) (to_ : Int) (but : (List Int)) : Le (axis_run_e from_ to_ but) (axis_run from_ to_ but) := by
  unfold axis_run_e axis_run
  repeat' first | apply axis_run_b1_le | with_reducible refine Le.iter (fun _ => ?_) _ _ | with_reducible refine Le.bind ?_ ?_ | with_reducible refine Le.sum ?_ ?_ | with_reducible refine Le.sum ?_ ?_ _ | with_reducible refine Le.bif _ ?_ ?_ | with_reducible exact Le.refl _ | intro _
noncomputable def axis_far_e (d : (Option TDoc)) (p : TPoint) (axis : Int) : Option (List TPoint) :=
  (bif (axis == 12) then (doc_Doc_Up_e d p.N).bind fun v1 => (axis_run_e 0 p.N v1).bind fun v2 => some v2 else (doc_Doc_End d p.N).bind fun v3 => (bif (p.Part != 0) then (doc_Doc_Len d).bind fun v4 => (axis_run_e (w64 (p.N + 1)) v4 []).bind fun v5 => some v5 else (doc_Doc_Len d).bind fun v6 => (axis_run_e v3 v6 []).bind fun v7 => some v7))
theorem axis_far_le (d : (Option TDoc)) (p : TPoint) (axis : Int) : Le (axis_far_e d p axis) (axis_far d p axis) := by
  unfold axis_far_e axis_far
  repeat' first | apply axis_run_le | apply doc_Doc_Up_le | with_reducible refine Le.iter (fun _ => ?_) _ _ | with_reducible refine Le.bind ?_ ?_ | with_reducible refine Le.sum ?_ ?_ | with_reducible refine Le.sum ?_ ?_ _ | with_reducible refine Le.bif _ ?_ ?_ | with_reducible exact Le.refl _ | intro _
noncomputable def axis_lead_e (d : (Option TDoc)) (p : TPoint) (axis : Int) : Option (List TPoint) :=
  (bif (axis == 0) then some [p] else (bif (axis == 2) then (axis_above_e d p).bind fun v1 => (rng (v1.length : Int) 0 (mn (v1.length : Int) 1)).bind fun _ => (prt v1 0 ((mn (v1.length : Int) 1).toNat)).bind fun v2 => some v2 else (bif (axis == 5) then (axis_above_e d p).bind fun v3 => some v3 else (bif (axis == 6) then ((axis_above_e d p).bind fun v4 => (slices_Insert_Point v4 0 [p]).bind fun v5 => some v5 : Option ((List TPoint))).bind (fun (q6 : (List TPoint)) => some q6) else ((bif (axis == 9) then some true else some (axis == 10)) : Option (Bool)).bind (fun (q7 : Bool) => (bif q7 then (axis_beside_e d p (axis == 9)).bind fun v8 => some v8 else ((bif (axis == 11) then some true else some (axis == 12)) : Option (Bool)).bind (fun (q9 : Bool) => (bif q9 then (axis_far_e d p axis).bind fun v10 => some v10 else ((bif (axis == 4) then some (!(p.Part == 0)) else some false) : Option (Bool)).bind (fun (q11 : Bool) => (bif q11 then some [p] else (bif (!(p.Part == 0)) then some [] else (bif (axis == 1) then (doc_Doc_Kids_e d p.N).bind fun v12 => (axis_list_e v12).bind fun v13 => some v13 else (bif (axis == 3) then (doc_Doc_End d p.N).bind fun v14 => (axis_run_e (w64 (p.N + 1)) v14 []).bind fun v15 => some v15 else (bif (axis == 4) then (doc_Doc_End d p.N).bind fun v16 => (axis_run_e p.N v16 []).bind fun v17 => some v17 else (bif (axis == 7) then (point_Marks_e d p.N).bind fun v18 => some v18 else (bif (axis == 8) then (point_Spaces_e d p.N).bind fun v19 => some v19 else some []))))))))))))))))
theorem axis_lead_le (d : (Option TDoc)) (p : TPoint) (axis : Int) : Le (axis_lead_e d p axis) (axis_lead d p axis) := by
  unfold axis_lead_e axis_lead
  repeat' first | apply axis_above_le | apply axis_beside_le | apply axis_far_le | apply axis_list_le | apply axis_run_le | apply doc_Doc_Kids_le | apply point_Marks_le | apply point_Spaces_le | with_reducible refine Le.iter (fun _ => ?_) _ _ | with_reducible refine Le.bind ?_ ?_ | with_reducible refine Le.sum ?_ ?_ | with_reducible refine Le.sum ?_ ?_ _ | with_reducible refine Le.bif _ ?_ ?_ | with_reducible exact Le.refl _ | intro _
noncomputable def slices_Reverse_Point_e (s : (List TPoint)) : Option (List TPoint) :=
  (iterN (slices_Reverse_Point_b1) 100000 (0, (w64 ((s.length : Int) - 1)), s)).bind (fun (q8 : (List TPoint)) => some q8)
theorem slices_Reverse_Point_le (s : (List TPoint)) : Le (slices_Reverse_Point_e s) (slices_Reverse_Point s) := by
  unfold slices_Reverse_Point_e slices_Reverse_Point
  repeat' first | with_reducible refine Le.iter (fun _ => ?_) _ _ | with_reducible refine Le.bind ?_ ?_ | with_reducible refine Le.sum ?_ ?_ | with_reducible refine Le.sum ?_ ?_ _ | with_reducible refine Le.bif _ ?_ ?_ | with_reducible exact Le.refl _ | intro _
noncomputable def axis_Along_e (d : (Option TDoc)) (p : TPoint) (axis : Int) : Option (List TPoint) :=
  (point_Has_e d p).bind fun v1 => (bif (!v1) then some [] else (axis_Name axis).bind fun v2 => (bif (v2 == []) then some [] else (axis_lead_e d p axis).bind fun v3 => (bif (axis == 12) then (slices_Reverse_Point_e v3).bind fun v4 => (eqn v4.length v3.length).bind fun _ => some v4 else (bif (axis == 10) then (slices_Reverse_Point_e v3).bind fun v6 => (eqn v6.length v3.length).bind fun _ => some v6 else some v3))))
theorem axis_Along_le (d : (Option TDoc)) (p : TPoint) (axis : Int) : Le (axis_Along_e d p axis) (axis_Along d p axis) := by
  unfold axis_Along_e axis_Along
  repeat' first | apply axis_lead_le | apply point_Has_le | apply slices_Reverse_Point_le | with_reducible refine Le.iter (fun _ => ?_) _ _ | with_reducible refine Le.bind ?_ ?_ | with_reducible refine Le.sum ?_ ?_ | with_reducible refine Le.sum ?_ ?_ _ | with_reducible refine Le.bif _ ?_ ?_ | with_reducible exact Le.refl _ | intro _
noncomputable def slices_Index_string_e (s : (List Str)) (v_ : Str) : Option Int :=
  (iterN (slices_Index_string_b1 s v_) 100000 0).bind (Sum.elim (fun (q3 : Int) => some q3) (fun (q4 : Unit) => some (-1)))
theorem slices_Index_string_le (s : (List Str)) (v_ : Str) : Le (slices_Index_string_e s v_) (slices_Index_string s v_) := by
  unfold slices_Index_string_e slices_Index_string
  repeat' first | with_reducible refine Le.iter (fun _ => ?_) _ _ | with_reducible refine Le.bind ?_ ?_ | with_reducible refine Le.sum ?_ ?_ | with_reducible refine Le.sum ?_ ?_ _ | with_reducible refine Le.bif _ ?_ ?_ | with_reducible exact Le.refl _ | intro _
noncomputable def axis_Of_e (name : Str) : Option (Int × Bool) :=
  (axis_names).bind fun v1 => (slices_Index_string_e v1 name).bind fun v2 => some ((mx v2 0), (decide (v2 ≥ 0)))
theorem axis_Of_le (name : Str) : Le (axis_Of_e name) (axis_Of name) := by
  unfold axis_Of_e axis_Of
  repeat' first | apply slices_Index_string_le | with_reducible refine Le.iter (fun _ => ?_) _ _ | with_reducible refine Le.bind ?_ ?_ | with_reducible refine Le.sum ?_ ?_ | with_reducible refine Le.sum ?_ ?_ _ | with_reducible refine Le.bif _ ?_ ?_ | with_reducible exact Le.refl _ | intro _
noncomputable def apostillelaw13_awake_e : Option Bool :=
  (parse_Parse_e [60, 97, 32, 98, 61, 39, 49, 39, 47, 62]).bind fun v1 => (axis_Along_e v1.1 (TPoint.mk 1 2 0) 2).bind fun v2 => (axis_Of_e [112, 97, 114, 101, 110, 116]).bind fun v3 => (bif (v1.2 == 0) then (bif ((v2.length : Int) == 1) then (at' v2 0).bind fun v4 => (bif (TPoint.eqb v4 (TPoint.mk 1 0 0)) then (bif (v3.1 == 2) then some v3.2 else some false) else some false) else some false) else some false)
theorem apostillelaw13_awake_le : Le (apostillelaw13_awake_e) (apostillelaw13_awake) := by
  unfold apostillelaw13_awake_e apostillelaw13_awake
  repeat' first | apply axis_Along_le | apply axis_Of_le | apply parse_Parse_le | with_reducible refine Le.iter (fun _ => ?_) _ _ | with_reducible refine Le.bind ?_ ?_ | with_reducible refine Le.sum ?_ ?_ | with_reducible refine Le.sum ?_ ?_ _ | with_reducible refine Le.bif _ ?_ ?_ | with_reducible exact Le.refl _ | intro _
end G
