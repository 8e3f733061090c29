/- PLAIN FUNCTIONS with so many rounds. WRITTEN BY t_eval.py. No program, no memory. Conditions: none. -/
import Derived.Test.YtojbjdcflgeibaaGreatDoorAbsM3
import Derived.Test.YtojbjdcflgeibaaGreatDoorQPure
import Derived.Test.YtojbjdcflgeibaaGreatDoorAbsM2
import Derived.Lib.ValidLaws
import Derived.Lib.MapLaws
import Derived.WalkKit
import Derived.Lib.DecodeNEq
import Derived.Lib.Replace
import Derived.Lib.ReplaceLaws
set_option linter.unusedVariables false
set_option maxRecDepth 20000
namespace G
open W
noncomputable def utf8_Valid_b1_e (y2:(List UInt8)):Option ((List UInt8)⊕(Unit⊕Unit)):=
 (bif (decide ((y2.length:Int)>0)) then (at' y2 0).bind fun v3=>(bif (decide ((v3.toNat:Int)<128)) then (sub' y2 1 (y2.length:Int)).bind fun v4=>((bif (decide ((v4.length:Int)>8)) then (qt v4).bind fun v5=>some ((v64 (band 64 v5 9259542123273814144))==0) else some false):Option (Bool)).bind (fun (q6:Bool)=>(bif q6 then (sub' v4 8 (v4.length:Int)).bind fun v7=>((bif (decide ((v7.length:Int)>16)) then (sub' v7 8 (v7.length:Int)).bind fun v8=>(qt v7).bind fun v9=>(qt v8).bind fun v10=>some ((v64 (band 64 (v64 (bor 64 v9 v10)) 9259542123273814144))==0) else some false):Option (Bool)).bind (fun (q11:Bool)=>(bif q11 then (sub' v7 16 (v7.length:Int)).bind fun v12=>(iterN (Qo) 100000 v12).bind (fun (q22:(List UInt8))=>some (.inl q22)) else some (.inl v7))) else some (.inl v4))) else (at' utf8First (v3.toNat:Int)).bind fun v23=>(at' utf8Ranges ((u8 ((v23.toNat:Int).fdiv (2^4))).toNat:Int)).bind fun v24=>(bif ((w64 ((u8 (band 8 (v23.toNat:Int) 7)).toNat:Int))==2) then (bif (decide ((y2.length:Int)<2)) then some (.inr (Sum.inl ())) else (at' y2 1).bind fun v25=>(bif (decide ((v25.toNat:Int)<(v24.lo.toNat:Int))) then some (.inr (Sum.inl ())) else (at' y2 1).bind fun v26=>(bif (decide ((v24.hi.toNat:Int)<(v26.toNat:Int))) then some (.inr (Sum.inl ())) else (sub' y2 2 (y2.length:Int)).bind fun v27=>some (.inl v27)))) else (bif ((w64 ((u8 (band 8 (v23.toNat:Int) 7)).toNat:Int))==3) then (bif (decide ((y2.length:Int)<3)) then some (.inr (Sum.inl ())) else (at' y2 1).bind fun v28=>(bif (decide ((v28.toNat:Int)<(v24.lo.toNat:Int))) then some (.inr (Sum.inl ())) else (at' y2 1).bind fun v29=>(bif (decide ((v24.hi.toNat:Int)<(v29.toNat:Int))) then some (.inr (Sum.inl ())) else (at' y2 2).bind fun v30=>(bif (decide ((v30.toNat:Int)<128)) then some (.inr (Sum.inl ())) else (at' y2 2).bind fun v31=>(bif (decide (191<(v31.toNat:Int))) then some (.inr (Sum.inl ())) else (sub' y2 3 (y2.length:Int)).bind fun v32=>some (.inl v32)))))) else (bif ((w64 ((u8 (band 8 (v23.toNat:Int) 7)).toNat:Int))==4) then (bif (decide ((y2.length:Int)<4)) then some (.inr (Sum.inl ())) else (at' y2 1).bind fun v33=>(bif (decide ((v33.toNat:Int)<(v24.lo.toNat:Int))) then some (.inr (Sum.inl ())) else (at' y2 1).bind fun v34=>(bif (decide ((v24.hi.toNat:Int)<(v34.toNat:Int))) then some (.inr (Sum.inl ())) else (at' y2 2).bind fun v35=>(bif (decide ((v35.toNat:Int)<128)) then some (.inr (Sum.inl ())) else (at' y2 2).bind fun v36=>(bif (decide (191<(v36.toNat:Int))) then some (.inr (Sum.inl ())) else (at' y2 3).bind fun v37=>(bif (decide ((v37.toNat:Int)<128)) then some (.inr (Sum.inl ())) else (at' y2 3).bind fun v38=>(bif (decide (191<(v38.toNat:Int))) then some (.inr (Sum.inl ())) else (sub' y2 4 (y2.length:Int)).bind fun v39=>some (.inl v39)))))))) else some (.inr (Sum.inl ())))))) else some (.inr (Sum.inr ())))
theorem utf8_Valid_b1_le (y2:(List UInt8)):Le (utf8_Valid_b1_e y2) (ZX y2):=by
 unfold utf8_Valid_b1_e ZX
 repeat' first|with_reducible refine Le.iter (fun _=> ?_) _ _|with_reducible refine Le.bind ?_ ?_|with_reducible refine Le.sum ?_ ?_|with_reducible refine Le.sum ?_ ?_ _|with_reducible refine Le.bif _ ?_ ?_|with_reducible exact Le.refl _|intro _
noncomputable def utf8_Valid_e (p:(List UInt8)):Option Bool:=
 (sub3 p 0 (p.length:Int) (p.length:Int)).bind fun v1=>(iterN (utf8_Valid_b1_e) 100000 v1).bind (Sum.elim (fun (q40:Unit)=>some false) (fun (q41:Unit)=>some true))
theorem utf8_Valid_le (p:(List UInt8)):Le (utf8_Valid_e p) (zan p):=by
 unfold utf8_Valid_e zan
 repeat' first|apply utf8_Valid_b1_le|with_reducible refine Le.iter (fun _=> ?_) _ _|with_reducible refine Le.bind ?_ ?_|with_reducible refine Le.sum ?_ ?_|with_reducible refine Le.sum ?_ ?_ _|with_reducible refine Le.bif _ ?_ ?_|with_reducible exact Le.refl _|intro _
noncomputable def utf_Valid_e (b:(List UInt8)):Option Bool:=
 (utf8_Valid_e b).bind fun v1=>some v1
theorem utf_Valid_le (b:(List UInt8)):Le (utf_Valid_e b) (utf_Valid b):=by
 unfold utf_Valid_e utf_Valid
 repeat' first|apply utf8_Valid_le|with_reducible refine Le.iter (fun _=> ?_) _ _|with_reducible refine Le.bind ?_ ?_|with_reducible refine Le.sum ?_ ?_|with_reducible refine Le.sum ?_ ?_ _|with_reducible refine Le.bif _ ?_ ?_|with_reducible exact Le.refl _|intro _
noncomputable def utf8_DecodeRune_e (p:(List UInt8)):Option (Int×Int):=
 (iterN (Qt p) 100000 ()).bind (Sum.elim (fun (q3:Int)=>some (q3,1)) (fun (q4:Unit)=>(ZJ p).bind fun v5=>some (v5.1,v5.2)))
theorem utf8_DecodeRune_le (p:(List UInt8)):Le (utf8_DecodeRune_e p) (Qa p):=by
 unfold utf8_DecodeRune_e Qa
 repeat' first|with_reducible refine Le.iter (fun _=> ?_) _ _|with_reducible refine Le.bind ?_ ?_|with_reducible refine Le.sum ?_ ?_|with_reducible refine Le.sum ?_ ?_ _|with_reducible refine Le.bif _ ?_ ?_|with_reducible exact Le.refl _|intro _
noncomputable def utf_Chars_b1_e (b:(List UInt8))(y2:Int×(List Int)):Option ((Int×(List Int))⊕(List Int)):=
 (bif (decide (y2.1<(b.length:Int))) then (sub' b y2.1 (b.length:Int)).bind fun v3=>(utf8_DecodeRune_e v3).bind fun v4=>(app 4 y2.2 [v4.1]).bind fun v5=>some (.inl ((w64 (y2.1+v4.2)),v5)) else some (.inr y2.2))
theorem utf_Chars_b1_le (b:(List UInt8))(y2:Int×(List Int)):Le (utf_Chars_b1_e b y2) (Qi b y2):=by
 unfold utf_Chars_b1_e Qi
 repeat' first|apply utf8_DecodeRune_le|with_reducible refine Le.iter (fun _=> ?_) _ _|with_reducible refine Le.bind ?_ ?_|with_reducible refine Le.sum ?_ ?_|with_reducible refine Le.sum ?_ ?_ _|with_reducible refine Le.bif _ ?_ ?_|with_reducible exact Le.refl _|intro _
noncomputable def utf_Chars_e (b:(List UInt8)):Option ((List Int)×Bool):=
 (utf_Valid_e b).bind fun v1=>(bif (!v1) then some ([],false) else (iterN (utf_Chars_b1_e b) 100000 (0,[])).bind (fun (q6:(List Int))=>some (q6,true)))
theorem utf_Chars_le (b:(List UInt8)):Le (utf_Chars_e b) (zaw b):=by
 unfold utf_Chars_e zaw
 repeat' first|apply utf_Chars_b1_le|apply utf_Valid_le|with_reducible refine Le.iter (fun _=> ?_) _ _|with_reducible refine Le.bind ?_ ?_|with_reducible refine Le.sum ?_ ?_|with_reducible refine Le.sum ?_ ?_ _|with_reducible refine Le.bif _ ?_ ?_|with_reducible exact Le.refl _|intro _
noncomputable def name_in_e (r_:Int)(l:(List zN)):Option Bool:=
 (iterN (Js r_ l) 100000 0).bind (Sum.elim (fun (q3:Unit)=>some true) (fun (q4:Unit)=>some false))
theorem name_in_le (r_:Int)(l:(List zN)):Le (name_in_e r_ l) (name_in r_ l):=by
 unfold name_in_e name_in
 repeat' first|with_reducible refine Le.iter (fun _=> ?_) _ _|with_reducible refine Le.bind ?_ ?_|with_reducible refine Le.sum ?_ ?_|with_reducible refine Le.sum ?_ ?_ _|with_reducible refine Le.bif _ ?_ ?_|with_reducible exact Le.refl _|intro _
noncomputable def name_Begins_e (r_:Int):Option Bool:=
 (bif (r_==95) then some true else (name_in_e r_ [(zN.mk 65 90),(zN.mk 97 122),(zN.mk 192 214),(zN.mk 216 246),(zN.mk 248 767),(zN.mk 880 893),(zN.mk 895 8191),(zN.mk 8204 8205),(zN.mk 8304 8591),(zN.mk 11264 12271),(zN.mk 12289 55295),(zN.mk 63744 64975),(zN.mk 65008 65533),(zN.mk 65536 983039)]).bind fun v1=>some v1)
theorem name_Begins_le (r_:Int):Le (name_Begins_e r_) (Ji r_):=by
 unfold name_Begins_e Ji
 repeat' first|apply name_in_le|with_reducible refine Le.iter (fun _=> ?_) _ _|with_reducible refine Le.bind ?_ ?_|with_reducible refine Le.sum ?_ ?_|with_reducible refine Le.sum ?_ ?_ _|with_reducible refine Le.bif _ ?_ ?_|with_reducible exact Le.refl _|intro _
noncomputable def name_Stands_e (r_:Int):Option Bool:=
 (name_Begins_e r_).bind fun v1=>(bif v1 then some true else (bif (r_==45) then some true else (bif (r_==46) then some true else (bif (r_==183) then some true else (name_in_e r_ [(zN.mk 48 57),(zN.mk 768 879),(zN.mk 8255 8256)]).bind fun v2=>some v2))))
theorem name_Stands_le (r_:Int):Le (name_Stands_e r_) (Jk r_):=by
 unfold name_Stands_e Jk
 repeat' first|apply name_Begins_le|apply name_in_le|with_reducible refine Le.iter (fun _=> ?_) _ _|with_reducible refine Le.bind ?_ ?_|with_reducible refine Le.sum ?_ ?_|with_reducible refine Le.sum ?_ ?_ _|with_reducible refine Le.bif _ ?_ ?_|with_reducible exact Le.refl _|intro _
noncomputable def name_Is_b1_e (v1:(List Int)×Bool)(y4:Int):Option (Int⊕(Unit⊕Unit)):=
 (bif (decide (y4<(v1.1.length:Int))) then (at' v1.1 y4).bind fun v5=>(name_Stands_e v5).bind fun v6=>(bif (!v6) then some (.inr (Sum.inl ())) else some (.inl (w64 (y4+1)))) else some (.inr (Sum.inr ())))
theorem name_Is_b1_le (v1:(List Int)×Bool)(y4:Int):Le (name_Is_b1_e v1 y4) (QU v1 y4):=by
 unfold name_Is_b1_e QU
 repeat' first|apply name_Stands_le|with_reducible refine Le.iter (fun _=> ?_) _ _|with_reducible refine Le.bind ?_ ?_|with_reducible refine Le.sum ?_ ?_|with_reducible refine Le.sum ?_ ?_ _|with_reducible refine Le.bif _ ?_ ?_|with_reducible exact Le.refl _|intro _
noncomputable def name_Is_e (s:Str):Option Bool:=
 (utf_Chars_e s).bind fun v1=>(bif (!v1.2) then some false else (bif ((v1.1.length:Int)==0) then some false else (at' v1.1 0).bind fun v2=>(name_Begins_e v2).bind fun v3=>(bif (!v3) then some false else (iterN (name_Is_b1_e v1) 100000 0).bind (Sum.elim (fun (q7:Unit)=>some false) (fun (q8:Unit)=>some true)))))
theorem name_Is_le (s:Str):Le (name_Is_e s) (Z0 s):=by
 unfold name_Is_e Z0
 repeat' first|apply name_Begins_le|apply name_Is_b1_le|apply utf_Chars_le|with_reducible refine Le.iter (fun _=> ?_) _ _|with_reducible refine Le.bind ?_ ?_|with_reducible refine Le.sum ?_ ?_|with_reducible refine Le.sum ?_ ?_ _|with_reducible refine Le.bif _ ?_ ?_|with_reducible exact Le.refl _|intro _
noncomputable def JQ (u1:Int)(u2:(Option Zb))(u3:(List (Str×Int))):Option (Bool×(List (Str×Int))):=
 (Zn u2 u1).bind fun v1=>(iterN (qe u1 v1) 100000 (0,u3)).bind (Sum.elim (fun (q5:(List (Str×Int)))=>some (false,q5)) (fun (q6:(List (Str×Int)))=>some (true,q6)))
theorem ident_Index_add_s1_le (u1:Int)(u2:(Option Zb))(u3:(List (Str×Int))):Le (JQ u1 u2 u3) (Zs u1 u2 u3):=by
 unfold JQ Zs
 repeat' first|with_reducible refine Le.iter (fun _=> ?_) _ _|with_reducible refine Le.bind ?_ ?_|with_reducible refine Le.sum ?_ ?_|with_reducible refine Le.sum ?_ ?_ _|with_reducible refine Le.bif _ ?_ ?_|with_reducible exact Le.refl _|intro _
noncomputable def ident_Of_b1_e (d:(Option Zb))(v1:Int)(y2:Int×(List (Str×Int))):Option ((Int×(List (Str×Int)))⊕(Unit⊕(List (Str×Int)))):=
 (bif (decide (y2.1<v1)) then (JQ y2.1 d y2.2).bind fun v3=>(bif (!v3.1) then some (.inr (Sum.inl ())) else some (.inl ((w64 (y2.1+1)),v3.2))) else some (.inr (Sum.inr y2.2)))
theorem ident_Of_b1_le (d:(Option Zb))(v1:Int)(y2:Int×(List (Str×Int))):Le (ident_Of_b1_e d v1 y2) (Qm d v1 y2):=by
 unfold ident_Of_b1_e Qm
 repeat' first|apply ident_Index_add_s1_le|with_reducible refine Le.iter (fun _=> ?_) _ _|with_reducible refine Le.bind ?_ ?_|with_reducible refine Le.sum ?_ ?_|with_reducible refine Le.sum ?_ ?_ _|with_reducible refine Le.bif _ ?_ ?_|with_reducible exact Le.refl _|intro _
noncomputable def ident_Of_e (d:(Option Zb)):Option ((Option ZV)×Int):=
 (bif d.isNone then some (none,1) else (zav d).bind fun v1=>(iterN (ident_Of_b1_e d v1) 100000 (0,[])).bind (Sum.elim (fun (q4:Unit)=>some (none,9)) (fun (q5:(List (Str×Int)))=>some ((some (ZV.mk d q5)),0))))
theorem ident_Of_le (d:(Option Zb)):Le (ident_Of_e d) (zae d):=by
 unfold ident_Of_e zae
 repeat' first|apply ident_Of_b1_le|with_reducible refine Le.iter (fun _=> ?_) _ _|with_reducible refine Le.bind ?_ ?_|with_reducible refine Le.sum ?_ ?_|with_reducible refine Le.sum ?_ ?_ _|with_reducible refine Le.bif _ ?_ ?_|with_reducible exact Le.refl _|intro _
noncomputable def zab (uri:Str)(y1:Int):Option (Int⊕((Str×Bool)⊕Unit)):=
 (bif (decide (y1<([[39],[34]].length:Int))) then (at' [[39],[34]] y1).bind fun v2=>(cat [35,120,112,111,105,110,116,101,114,40,105,100,40] v2).bind fun v3=>(cat v2 [41,41]).bind fun v4=>(ZL uri v3 v4).bind fun v5=>(bif v5.2 then (name_Is_e v5.1).bind fun v6=>some (.inr (Sum.inl (v5.1,v6))) else some (.inl (w64 (y1+1)))) else some (.inr (Sum.inr ())))
theorem resolve_called_b1_le (uri:Str)(y1:Int):Le (zab uri y1) (ZF uri y1):=by
 unfold zab ZF
 repeat' first|apply name_Is_le|with_reducible refine Le.iter (fun _=> ?_) _ _|with_reducible refine Le.bind ?_ ?_|with_reducible refine Le.sum ?_ ?_|with_reducible refine Le.sum ?_ ?_ _|with_reducible refine Le.bif _ ?_ ?_|with_reducible exact Le.refl _|intro _
noncomputable def resolve_called_e (uri:Str):Option (Str×Bool×Bool):=
 (iterN (zab uri) 100000 0).bind (Sum.elim (fun (q7:Str×Bool)=>some (q7.1,true,q7.2)) (fun (q8:Unit)=>(qE uri [35]).bind fun v9=>(bif v9.2 then (name_Is_e v9.1).bind fun v10=>some (v9.1,false,v10) else some (v9.1,false,false))))
theorem resolve_called_le (uri:Str):Le (resolve_called_e uri) (Qx uri):=by
 unfold resolve_called_e Qx
 repeat' first|apply name_Is_le|apply resolve_called_b1_le|with_reducible refine Le.iter (fun _=> ?_) _ _|with_reducible refine Le.bind ?_ ?_|with_reducible refine Le.sum ?_ ?_|with_reducible refine Le.sum ?_ ?_ _|with_reducible refine Le.bif _ ?_ ?_|with_reducible exact Le.refl _|intro _
noncomputable def resolve_Node_e (x:(Option ZV))(uri:Str):Option (Int×Bool×Int):=
 (bif x.isNone then some (0,false,8) else (bif (uri==[]) then some (0,false,0) else (bif (uri==[35,120,112,111,105,110,116,101,114,40,47,41]) then some (0,true,0) else (resolve_called_e uri).bind fun v1=>(Q7 x v1.1).bind fun v2=>(bif (!v1.2.2) then some (0,false,8) else (bif (!v2.2) then some (0,false,8) else some (v2.1,v1.2.1,0))))))
theorem resolve_Node_le (x:(Option ZV))(uri:Str):Le (resolve_Node_e x uri) (Jr x uri):=by
 unfold resolve_Node_e Jr
 repeat' first|apply resolve_called_le|with_reducible refine Le.iter (fun _=> ?_) _ _|with_reducible refine Le.bind ?_ ?_|with_reducible refine Le.sum ?_ ?_|with_reducible refine Le.sum ?_ ?_ _|with_reducible refine Le.bif _ ?_ ?_|with_reducible exact Le.refl _|intro _
end G
set_option linter.unusedSimpArgs false
namespace G
open W
open Go.Lib (decodeL decodeN validD leNat maskN firstT accLo accHi checkN slowN)
theorem dec_N (s:Str)(i:Nat):dec s i=decodeN (s.length-i) (s.getD i 0).toNat (s.getD (i+1) 0).toNat (s.getD (i+2) 0).toNat (s.getD (i+3) 0).toNat:=by
 have c1:(i+1<s.length)=(1<s.length-i):=propext ⟨fun h=>by omega,fun h=>by omega⟩
 have c2:(i+2<s.length)=(2<s.length-i):=propext ⟨fun h=>by omega,fun h=>by omega⟩
 have c3:(i+3<s.length)=(3<s.length-i):=propext ⟨fun h=>by omega,fun h=>by omega⟩
 simp only [dec,decodeN,validRune,Nat.add_zero,Bool.and_eq_true,Bool.or_eq_true,beq_iff_eq,decide_eq_true_eq,c1,c2,c3,ge_iff_le]
 repeat' split
 all_goals first|rfl|(exfalso;omega)|omega
theorem getD_drop (s:Str)(i k:Nat):(s.drop i).getD k 0=s.getD (i+k) 0:=by
 simp [List.getD_eq_getElem?_getD]
theorem dec_L (s:Str)(i:Nat):dec s i=decodeL (s.drop i):=by
 rw [dec_N,Go.Lib.decodeL_N,List.length_drop,getD_drop,getD_drop,getD_drop,getD_drop];rfl
def chs:Nat→Str→List Int
 |0,_=>[]
 |n+1,s=>if s=[] then [] else ((decodeL s).1:Int)::chs n (s.drop (decodeL s).2)
theorem v64_nat (n:Nat)(h:n<18446744073709551616):v64 (n:Int)=(n:Int):=by
 have e1:(2^64:Int)=18446744073709551616:=by decide
 unfold v64 wr
 simp only [Bool.false_and,e1]
 rw [if_neg (by simp)];omega
theorem bv_nat (n:Nat)(h:n<18446744073709551616):(BitVec.ofInt 64 (n:Int)).toNat=n:=by
 rw [BitVec.ofInt_natCast,BitVec.toNat_ofNat];exact Nat.mod_eq_of_lt h
theorem bor_nat (x y:Nat)(hx:x<18446744073709551616)(hy:y<18446744073709551616):bor 64 (x:Int) (y:Int)=((x ||| y:Nat):Int):=by
 unfold bor;rw [BitVec.toNat_or,bv_nat x hx,bv_nat y hy]
theorem band_nat (x y:Nat)(hx:x<18446744073709551616)(hy:y<18446744073709551616):band 64 (x:Int) (y:Int)=((x &&& y:Nat):Int):=by
 unfold band;rw [BitVec.toNat_and,bv_nat x hx,bv_nat y hy]
theorem bor_step (S k:Nat)(b:UInt8)(hS:S<2^k)(hk:k+8≤64):v64 (bor 64 (S:Int) (v64 ((v64 (b.toNat:Int))*2^k)))=((S+b.toNat*2^k:Nat):Int):=by
 have hb:=b.toNat_lt
 have h1:b.toNat*2^k<2^8*2^k:=Nat.mul_lt_mul_of_pos_right hb (Nat.two_pow_pos k)
 have h2:2^8*2^k≤2^64:=by rw [←Nat.pow_add];exact Nat.pow_le_pow_right (by decide) (by omega)
 have h3:2^k≤2^64:=Nat.pow_le_pow_right (by decide) (by omega)
 have h4:S+b.toNat*2^k<2^64:=by
  have:(b.toNat+1)*2^k≤2^8*2^k:=Nat.mul_le_mul_right _ hb
  rw [Nat.add_mul,Nat.one_mul] at this
  omega
 have e64:(2:Nat)^64=18446744073709551616:=by decide
 rw [e64] at h2 h3 h4
 rw [v64_nat b.toNat (by omega),show ((b.toNat:Int)*2^k)=((b.toNat*2^k:Nat):Int) by push_cast;rfl,v64_nat _ (by omega),bor_nat _ _ (by omega) (by omega)]
 have e:S ||| b.toNat*2^k=S+b.toNat*2^k:=by
  have:=Nat.shiftLeft_add_eq_or_of_lt hS b.toNat
  rw [Nat.shiftLeft_eq] at this
  rw [Nat.or_comm,←this,Nat.add_comm]
 rw [e,v64_nat _ h4]
theorem word_eq (s:Str)(h:8≤s.length):qt s=some (leNat (s.take 8):Int):=by
 obtain ⟨a,b,c,d,e,f,g,i,r,rfl⟩: ∃ a b c d e f g i r,s=a::b::c::d::e::f::g::i::r:=by
  match s,h with
  |a::b::c::d::e::f::g::i::r,_=>exact ⟨a,b,c,d,e,f,g,i,r,rfl⟩
 have ha:=a.toNat_lt;have hb:=b.toNat_lt;have hc:=c.toNat_lt;have hd:=d.toNat_lt;have he:=e.toNat_lt;have hf:=f.toNat_lt;have hg:=g.toNat_lt
 have k1:=bor_step a.toNat 8 b (by omega) (by omega)
 have k2:=bor_step (a.toNat+b.toNat*2^8) 16 c (by omega) (by omega)
 have k3:=bor_step (a.toNat+b.toNat*2^8+c.toNat*2^16) 24 d (by omega) (by omega)
 have k4:=bor_step (a.toNat+b.toNat*2^8+c.toNat*2^16+d.toNat*2^24) 32 e (by omega) (by omega)
 have k5:=bor_step (a.toNat+b.toNat*2^8+c.toNat*2^16+d.toNat*2^24+e.toNat*2^32) 40 f (by omega) (by omega)
 have k6:=bor_step (a.toNat+b.toNat*2^8+c.toNat*2^16+d.toNat*2^24+e.toNat*2^32+f.toNat*2^40) 48 g (by omega) (by omega)
 have k7:=bor_step (a.toNat+b.toNat*2^8+c.toNat*2^16+d.toNat*2^24+e.toNat*2^32+f.toNat*2^40+g.toNat*2^48) 56 i (by omega) (by omega)
 unfold qt
 have at0: ∀ (x:UInt8) (n:Int),at' (a::b::c::d::e::f::g::i::r) n=(bif decide (0≤n) then (a::b::c::d::e::f::g::i::r)[n.toNat]? else none):=fun _ _=>rfl
 show some (v64 (bor 64 (v64 (bor 64 (v64 (bor 64 (v64 (bor 64 (v64 (bor 64 (v64 (bor 64 (v64 (bor 64 (v64 (a.toNat:Int)) (v64 ((v64 (b.toNat:Int))*2^8)))) (v64 ((v64 (c.toNat:Int))*2^16)))) (v64 ((v64 (d.toNat:Int))*2^24)))) (v64 ((v64 (e.toNat:Int))*2^32)))) (v64 ((v64 (f.toNat:Int))*2^40)))) (v64 ((v64 (g.toNat:Int))*2^48)))) (v64 ((v64 (i.toNat:Int))*2^56))))=_
 rw [v64_nat a.toNat (by omega),k1,k2,k3,k4,k5,k6,k7]
 simp only [List.take_succ_cons,List.take_zero,leNat]
 congr 1
 omega
theorem validD_skip (k:Nat)(l:Str)(h:(l.take k).all (fun b=>decide (b.toNat<128))=true):validD (l.drop k)=validD l:=(Go.Lib.validD_ascii k l (fun b hb=>by simpa using List.all_eq_true.1 h b hb)).symm
theorem at_get {l:Str}{i:Nat}(h:i<l.length):at' l (i:Int)=some (l.getD i 0):=by
 rw [z7 h,List.getD_eq_getElem?_getD,List.getElem?_eq_getElem h];rfl
theorem qP {α:Type}{l:List α}{k:Nat}(h:k≤l.length):sub' l (k:Int) (l.length:Int)=some (l.drop k):=by
 unfold sub'
 rw [show decide ((0:Int)≤(k:Int)∧(k:Int)≤(l.length:Int)∧(l.length:Int)≤(l.length:Int))=true by simp;omega]
 simp only [cond_true,Int.toNat_natCast]
 rw [List.take_of_length_le (by simp)]
theorem QQ {α:Type}{l:List α}{k:Nat}(h:k≤l.length):sub' l 0 (k:Int)=some (l.take k):=by
 unfold sub'
 rw [show decide ((0:Int)≤0∧(0:Int)≤(k:Int)∧(k:Int)≤(l.length:Int))=true by simp;omega]
 simp
def allA (l:Str):Bool:=l.all fun b=>decide (b.toNat<128)
theorem le8 (l:Str)(h:8≤l.length):leNat (l.take 8)<18446744073709551616:=by
 have:=Go.Lib.leNat_lt (l.take 8)
 rwa [show (l.take 8).length=8 by simp;omega,show (256:Nat)^8=18446744073709551616 by decide] at this
theorem mask8 (l:Str)(h:8≤l.length):leNat (l.take 8) &&& 9259542123273814144=0→allA (l.take 8)=true:=by
 have:=Go.Lib.leNat_mask (l.take 8)
 rw [show (l.take 8).length=8 by simp;omega,Go.Lib.maskN8] at this
 intro h
 simpa [allA] using this.1 h
theorem test_nat (n:Nat)(h:n<18446744073709551616)(ht:((v64 (band 64 (n:Int) 9259542123273814144))==0)=true):n &&& 9259542123273814144=0:=by
 rw [show (9259542123273814144:Int)=((9259542123273814144:Nat):Int) from rfl,band_nat _ _ h (by decide)] at ht
 have hle:n &&& 9259542123273814144≤n:=Nat.and_le_left
 rw [v64_nat _ (by omega)] at ht
 simpa using ht
theorem or_lt (x y:Nat)(hx:x<18446744073709551616)(hy:y<18446744073709551616):x ||| y<18446744073709551616:=by
 have:=Nat.or_lt_two_pow (n:=64) (show x<2^64 from hx) (show y<2^64 from hy)
 exact this
theorem v_or (x y:Nat)(hx:x<18446744073709551616)(hy:y<18446744073709551616):v64 (bor 64 (x:Int) (y:Int))=((x ||| y:Nat):Int):=by
 rw [bor_nat x y hx hy,v64_nat _ (or_lt x y hx hy)]
theorem all_app (l:Str)(a b:Nat)(h1:allA (l.take a)=true)(h2:allA ((l.drop a).take b)=true):allA (l.take (a+b))=true:=by
 rw [List.take_add]
 unfold allA at*
 rw [List.all_append,h1,h2];rfl
theorem valid_b2: ∀ (n:Nat) (l:Str),l.length≤n→l.length<4611686018427387904→ ∃ l',iter Qo l=some l'∧l'.length≤l.length∧validD l'=validD l:=by
 intro n
 induction n with
 |zero=>
  intro l h hB
  refine ⟨l,zg ?_,Nat.le_refl _,rfl⟩;unfold Qo
  rw [show decide ((l.length:Int)>32)=false by simp;omega];rfl
 |succ n ih=>
  intro l h hB
  by_cases hl:32<l.length
  ·have e:decide ((l.length:Int)>32)=true:=by simp;omega
   have s8:sub' l 8 (l.length:Int)=some (l.drop 8):=qP (k:=8) (by omega)
   have s16:sub' l 16 (l.length:Int)=some (l.drop 16):=qP (k:=16) (by omega)
   have s24:sub' l 24 (l.length:Int)=some (l.drop 24):=qP (k:=24) (by omega)
   have s32:sub' l 32 (l.length:Int)=some (l.drop 32):=qP (k:=32) (by omega)
   have w0:=word_eq l (by omega)
   have w8:=word_eq (l.drop 8) (by simp;omega)
   have w16:=word_eq (l.drop 16) (by simp;omega)
   have w24:=word_eq (l.drop 24) (by simp;omega)
   have b0:=le8 l (by omega)
   have b8:=le8 (l.drop 8) (by simp;omega)
   have b16:=le8 (l.drop 16) (by simp;omega)
   have b24:=le8 (l.drop 24) (by simp;omega)
   have hstep:Qo l=(bif ((v64 (band 64 (v64 (bor 64 (v64 (bor 64 (leNat (l.take 8):Int) (leNat ((l.drop 8).take 8):Int))) (v64 (bor 64 (leNat ((l.drop 16).take 8):Int) (leNat ((l.drop 24).take 8):Int))))) 9259542123273814144))==0) then some (.inl (l.drop 32)) else some (.inr l)):=by
    unfold Qo
    simp only [e,cond_true,s8,s16,s24,s32,w0,w8,w16,w24,Option.bind_some]
   cases ht:((v64 (band 64 (v64 (bor 64 (v64 (bor 64 (leNat (l.take 8):Int) (leNat ((l.drop 8).take 8):Int))) (v64 (bor 64 (leNat ((l.drop 16).take 8):Int) (leNat ((l.drop 24).take 8):Int))))) 9259542123273814144))==0) with
   |false=>
    rw [ht] at hstep
    exact ⟨l,zg hstep,Nat.le_refl _,rfl⟩
   |true=>
    rw [ht] at hstep
    obtain ⟨l',k1,k2,k3⟩:=ih (l.drop 32) (by simp;omega) (by simp;omega);refine ⟨l',by rw [zt hstep];exact k1,by simp at k2;omega,k3.trans (validD_skip 32 l ?_)⟩
    rw [v_or _ _ b0 b8,v_or _ _ b16 b24,v_or _ _ (or_lt _ _ b0 b8) (or_lt _ _ b16 b24)] at ht
    have h0:=test_nat _ (or_lt _ _ (or_lt _ _ b0 b8) (or_lt _ _ b16 b24)) ht
    obtain ⟨h1,h2⟩:=(Go.Lib.or_mask _ _ _).1 h0;obtain ⟨h3,h4⟩:=(Go.Lib.or_mask _ _ _).1 h1;obtain ⟨h5,h6⟩:=(Go.Lib.or_mask _ _ _).1 h2;exact all_app l 24 8 (all_app l 16 8 (all_app l 8 8 (mask8 l (by omega) h3) (mask8 _ (by simp;omega) h4)) (mask8 _ (by simp;omega) h5)) (mask8 _ (by simp;omega) h6)
  ·refine ⟨l,zg ?_,Nat.le_refl _,rfl⟩;unfold Qo
   rw [show decide ((l.length:Int)>32)=false by simp;omega];rfl
theorem valid_lo (b:UInt8)(t:Str)(hb:b.toNat<128)(hB:t.length<4611686018427387904): ∃ l',ZX (b::t)=some (.inl l')∧l'.length≤t.length∧validD l'=validD t:=by
 unfold ZX
 have e:decide ((((b::t:Str).length:Nat):Int)>0)=true:=by simp
 have a0:at' (b::t) 0=some b:=rfl
 have e1:decide ((b.toNat:Int)<128)=true:=by simp;omega
 have s1:sub' (b::t) 1 (((b::t:Str).length:Nat):Int)=some t:=qP (k:=1) (by simp)
 rw [e,a0]
 simp only [cond_true,Option.bind_some,e1,s1]
 by_cases h8:8<t.length
 ·rw [show decide ((t.length:Int)>8)=true by simp;omega]
  simp only [cond_true,word_eq t (by omega),Option.bind_some]
  cases ht:((v64 (band 64 (leNat (t.take 8):Int) 9259542123273814144))==0) with
  |false=>exact ⟨t,rfl,Nat.le_refl _,rfl⟩
  |true=>
   have v8:validD (t.drop 8)=validD t:=validD_skip 8 t (mask8 t (by omega) (test_nat _ (le8 t (by omega)) ht))
   have s8:sub' t 8 (t.length:Int)=some (t.drop 8):=qP (k:=8) (by omega)
   simp only [cond_true,s8,Option.bind_some]
   by_cases h16:16<(t.drop 8).length
   ·rw [show decide (((t.drop 8).length:Int)>16)=true by simp only [decide_eq_true_eq];omega]
    have s16:sub' (t.drop 8) 8 ((t.drop 8).length:Int)=some ((t.drop 8).drop 8):=qP (k:=8) (by omega)
    have l16:8≤((t.drop 8).drop 8).length:=by rw [List.length_drop];omega
    simp only [cond_true,s16,Option.bind_some,word_eq (t.drop 8) (by omega),word_eq ((t.drop 8).drop 8) l16]
    cases ht2:((v64 (band 64 (v64 (bor 64 (leNat ((t.drop 8).take 8):Int) (leNat (((t.drop 8).drop 8).take 8):Int))) 9259542123273814144))==0) with
    |false=>exact ⟨t.drop 8,rfl,by simp,v8⟩
    |true=>
     have s24:sub' (t.drop 8) 16 ((t.drop 8).length:Int)=some ((t.drop 8).drop 16):=qP (k:=16) (by omega)
     simp only [cond_true,s24,Option.bind_some]
     have b8:=le8 (t.drop 8) (by omega)
     have b16:=le8 ((t.drop 8).drop 8) l16
     rw [v_or _ _ b8 b16] at ht2
     obtain ⟨h3,h4⟩:=(Go.Lib.or_mask _ _ _).1 (test_nat _ (or_lt _ _ b8 b16) ht2)
     have v16:validD ((t.drop 8).drop 16)=validD (t.drop 8):=validD_skip 16 _ (all_app (t.drop 8) 8 8 (mask8 _ (by omega) h3) (mask8 _ l16 h4))
     obtain ⟨l',k1,k2,k3⟩:=valid_b2 ((t.drop 8).drop 16).length ((t.drop 8).drop 16) (Nat.le_refl _) (by simp only [List.length_drop];omega);exact ⟨l',by rw [k1];rfl,by simp only [List.length_drop] at k2;omega,k3.trans (v16.trans v8)⟩
   ·rw [show decide (((t.drop 8).length:Int)>16)=false by simp only [decide_eq_false_iff_not];omega]
    exact ⟨t.drop 8,rfl,by simp,v8⟩
 ·rw [show decide ((t.length:Int)>8)=false by simp;omega]
  exact ⟨t,rfl,Nat.le_refl _,rfl⟩
def tabOk (b:Nat):Bool:=
 match at' utf8First (b:Int) with
 |none=>false
 |some v=>(v.toNat==firstT b)&&(match at' utf8Ranges ((u8 ((v.toNat:Int).fdiv (2^4))).toNat:Int) with
  |none=>false
  |some r=>(r.lo.toNat==accLo (firstT b / 16))&&((r.hi.toNat==accHi (firstT b / 16))&&(w64 ((u8 (band 8 (v.toNat:Int) 7)).toNat:Int)==((firstT b % 8:Nat):Int))))
theorem tabs_all:(List.range 256).all tabOk=true:=by kernel_rfl
theorem tabs (b:UInt8): ∃ v r,at' utf8First (b.toNat:Int)=some v∧v.toNat=firstT b.toNat∧at' utf8Ranges ((u8 ((v.toNat:Int).fdiv (2^4))).toNat:Int)=some r∧r.lo.toNat=accLo (firstT b.toNat / 16)∧r.hi.toNat=accHi (firstT b.toNat / 16)∧w64 ((u8 (band 8 (v.toNat:Int) 7)).toNat:Int)=((firstT b.toNat % 8:Nat):Int):=by
 have h:=List.all_eq_true.1 tabs_all b.toNat (List.mem_range.2 b.toNat_lt)
 unfold tabOk at h
 split at h
 ·cases h
 ·rename_i v hv
  simp only [Bool.and_eq_true,beq_iff_eq] at h
  obtain ⟨h1,h2⟩:=h
  split at h2
  ·cases h2
  ·rename_i r hr
   simp only [Bool.and_eq_true,beq_iff_eq] at h2
   exact ⟨v,r,hv,h1,hr,h2.1,h2.2.1,h2.2.2⟩
theorem valid_hi (l:Str)(hne:l≠[])(h0:128≤(l.getD 0 0).toNat):ZX l=match checkN l.length (l.getD 1 0).toNat (l.getD 2 0).toNat (l.getD 3 0).toNat (firstT (l.getD 0 0).toNat % 8) (accLo (firstT (l.getD 0 0).toNat / 16)) (accHi (firstT (l.getD 0 0).toNat / 16)) with
 |none=>some (.inr (.inl ()))
 |some k=>some (.inl (l.drop k)):=by
 have hl:0<l.length:=List.length_pos_iff.2 hne
 unfold ZX
 have e:decide ((l.length:Int)>0)=true:=by simp;omega
 have a0:at' l 0=some (l.getD 0 0):=at_get (i:=0) hl
 have e1:decide (((l.getD 0 0).toNat:Int)<128)=false:=by rw [decide_eq_false_iff_not];omega
 obtain ⟨v,r,t1,t2,t3,t4,t5,t6⟩:=tabs (l.getD 0 0)
 rw [e,a0]
 simp only [cond_true,Option.bind_some,e1,cond_false,t1,t3,t6]
 rw [←t4,←t5]
 generalize hsz:firstT (l.getD 0 0).toNat % 8=sz
 unfold checkN
 by_cases h2:sz=2
 ·subst h2
  rw [if_pos rfl,show ((((2:Nat):Int))==2)=true from rfl]
  simp only [cond_true]
  by_cases n2:l.length<2
  ·rw [show decide ((l.length:Int)<2)=true by simp;omega,if_pos (Or.inl n2)];rfl
  ·rw [show decide ((l.length:Int)<2)=false by simp;omega]
   have a1:at' l 1=some (l.getD 1 0):=at_get (i:=1) (by omega)
   have s2:sub' l 2 (l.length:Int)=some (l.drop 2):=qP (k:=2) (by omega)
   simp only [cond_false,a1,Option.bind_some,s2]
   by_cases c1:(l.getD 1 0).toNat<r.lo.toNat
   ·rw [show decide (((l.getD 1 0).toNat:Int)<(r.lo.toNat:Int))=true by simp only [decide_eq_true_eq];omega,if_pos (by omega)];rfl
   ·rw [show decide (((l.getD 1 0).toNat:Int)<(r.lo.toNat:Int))=false by simp only [decide_eq_false_iff_not];omega]
    by_cases c2:r.hi.toNat<(l.getD 1 0).toNat
    ·rw [show decide ((r.hi.toNat:Int)<((l.getD 1 0).toNat:Int))=true by simp only [decide_eq_true_eq];omega,if_pos (by omega)];rfl
    ·rw [show decide ((r.hi.toNat:Int)<((l.getD 1 0).toNat:Int))=false by simp only [decide_eq_false_iff_not];omega,if_neg (by omega)];rfl
 ·rw [if_neg h2,show (((sz:Nat):Int)==2)=false by simp;omega]
  simp only [cond_false]
  by_cases h3:sz=3
  ·subst h3
   rw [if_pos rfl,show ((((3:Nat):Int))==3)=true from rfl]
   simp only [cond_true]
   by_cases n3:l.length<3
   ·rw [show decide ((l.length:Int)<3)=true by simp;omega,if_pos (Or.inl n3)];rfl
   ·rw [show decide ((l.length:Int)<3)=false by simp;omega]
    have a1:at' l 1=some (l.getD 1 0):=at_get (i:=1) (by omega)
    have a2:at' l 2=some (l.getD 2 0):=at_get (i:=2) (by omega)
    have s3:sub' l 3 (l.length:Int)=some (l.drop 3):=qP (k:=3) (by omega)
    simp only [cond_false,a1,a2,Option.bind_some,s3]
    by_cases c1:(l.getD 1 0).toNat<r.lo.toNat
    ·rw [show decide (((l.getD 1 0).toNat:Int)<(r.lo.toNat:Int))=true by simp only [decide_eq_true_eq];omega,if_pos (by omega)];rfl
    ·rw [show decide (((l.getD 1 0).toNat:Int)<(r.lo.toNat:Int))=false by simp only [decide_eq_false_iff_not];omega]
     by_cases c2:r.hi.toNat<(l.getD 1 0).toNat
     ·rw [show decide ((r.hi.toNat:Int)<((l.getD 1 0).toNat:Int))=true by simp only [decide_eq_true_eq];omega,if_pos (by omega)];rfl
     ·rw [show decide ((r.hi.toNat:Int)<((l.getD 1 0).toNat:Int))=false by simp only [decide_eq_false_iff_not];omega]
      by_cases c3:(l.getD 2 0).toNat<128
      ·rw [show decide (((l.getD 2 0).toNat:Int)<128)=true by simp only [decide_eq_true_eq];omega,if_pos (by omega)];rfl
      ·rw [show decide (((l.getD 2 0).toNat:Int)<128)=false by simp only [decide_eq_false_iff_not];omega]
       by_cases c4:191<(l.getD 2 0).toNat
       ·rw [show decide (191<((l.getD 2 0).toNat:Int))=true by simp only [decide_eq_true_eq];omega,if_pos (by omega)];rfl
       ·rw [show decide (191<((l.getD 2 0).toNat:Int))=false by simp only [decide_eq_false_iff_not];omega,if_neg (by omega)];rfl
  ·rw [if_neg h3,show (((sz:Nat):Int)==3)=false by simp;omega]
   simp only [cond_false]
   by_cases h4:sz=4
   ·subst h4
    rw [if_pos rfl,show ((((4:Nat):Int))==4)=true from rfl]
    simp only [cond_true]
    by_cases n4:l.length<4
    ·rw [show decide ((l.length:Int)<4)=true by simp;omega,if_pos (Or.inl n4)];rfl
    ·rw [show decide ((l.length:Int)<4)=false by simp;omega]
     have a1:at' l 1=some (l.getD 1 0):=at_get (i:=1) (by omega)
     have a2:at' l 2=some (l.getD 2 0):=at_get (i:=2) (by omega)
     have a3:at' l 3=some (l.getD 3 0):=at_get (i:=3) (by omega)
     have s4:sub' l 4 (l.length:Int)=some (l.drop 4):=qP (k:=4) (by omega)
     simp only [cond_false,a1,a2,a3,Option.bind_some,s4]
     by_cases c1:(l.getD 1 0).toNat<r.lo.toNat
     ·rw [show decide (((l.getD 1 0).toNat:Int)<(r.lo.toNat:Int))=true by simp only [decide_eq_true_eq];omega,if_pos (by omega)];rfl
     ·rw [show decide (((l.getD 1 0).toNat:Int)<(r.lo.toNat:Int))=false by simp only [decide_eq_false_iff_not];omega]
      by_cases c2:r.hi.toNat<(l.getD 1 0).toNat
      ·rw [show decide ((r.hi.toNat:Int)<((l.getD 1 0).toNat:Int))=true by simp only [decide_eq_true_eq];omega,if_pos (by omega)];rfl
      ·rw [show decide ((r.hi.toNat:Int)<((l.getD 1 0).toNat:Int))=false by simp only [decide_eq_false_iff_not];omega]
       by_cases c3:(l.getD 2 0).toNat<128
       ·rw [show decide (((l.getD 2 0).toNat:Int)<128)=true by simp only [decide_eq_true_eq];omega,if_pos (by omega)];rfl
       ·rw [show decide (((l.getD 2 0).toNat:Int)<128)=false by simp only [decide_eq_false_iff_not];omega]
        by_cases c4:191<(l.getD 2 0).toNat
        ·rw [show decide (191<((l.getD 2 0).toNat:Int))=true by simp only [decide_eq_true_eq];omega,if_pos (by omega)];rfl
        ·rw [show decide (191<((l.getD 2 0).toNat:Int))=false by simp only [decide_eq_false_iff_not];omega]
         by_cases c5:(l.getD 3 0).toNat<128
         ·rw [show decide (((l.getD 3 0).toNat:Int)<128)=true by simp only [decide_eq_true_eq];omega,if_pos (by omega)];rfl
         ·rw [show decide (((l.getD 3 0).toNat:Int)<128)=false by simp only [decide_eq_false_iff_not];omega]
          by_cases c6:191<(l.getD 3 0).toNat
          ·rw [show decide (191<((l.getD 3 0).toNat:Int))=true by simp only [decide_eq_true_eq];omega,if_pos (by omega)];rfl
          ·rw [show decide (191<((l.getD 3 0).toNat:Int))=false by simp only [decide_eq_false_iff_not];omega,if_neg (by omega)];rfl
   ·rw [if_neg h4,show (((sz:Nat):Int)==4)=false by simp;omega];rfl
theorem valid_loop: ∀ (n:Nat) (l:Str),l.length≤n→l.length<4611686018427387904→iter ZX l=some (bif validD l then .inr () else .inl ()):=by
 intro n
 induction n with
 |zero=>
  intro l h hB
  obtain rfl:=List.length_eq_zero_iff.1 (Nat.le_zero.1 h);exact zg rfl
 |succ n ih=>
  intro l h hB
  cases l with
  |nil=>exact zg rfl
  |cons b t=>
   simp only [List.length_cons] at h hB
   by_cases hb:b.toNat<128
   ·obtain ⟨l',k1,k2,k3⟩:=valid_lo b t hb (by omega)
    rw [zt k1,ih l' (by omega) (by omega),k3,Go.Lib.validD_cons b t hb]
   ·have k:=valid_hi (b::t) (by simp) (by simp;omega)
    have k':=Go.Lib.validD_lead (b::t) (by simp) (by simp;omega)
    generalize hch:checkN (b::t).length ((b::t).getD 1 0).toNat ((b::t).getD 2 0).toNat ((b::t).getD 3 0).toNat (firstT ((b::t).getD 0 0).toNat % 8) (accLo (firstT ((b::t).getD 0 0).toNat / 16)) (accHi (firstT ((b::t).getD 0 0).toNat / 16))=o at k k'
    cases o with
    |none=>rw [k'];exact zg k
    |some q=>
     have hq:2≤q:=by
      unfold checkN at hch
      split at hch
      ·split at hch<;>simp_all
      ·split at hch
       ·split at hch<;>simp_all<;>omega
       ·split at hch
        ·split at hch<;>simp_all<;>omega
        ·cases hch
     rw [zt k,ih _ (by simp only [List.length_drop,List.length_cons];omega) (by simp only [List.length_drop,List.length_cons];omega),k']
theorem Valid_eq (p:Str)(h:p.length<4611686018427387904):zan p=some (validD p):=by
 unfold zan
 have e:sub3 p 0 (p.length:Int) (p.length:Int)=some p:=by
  unfold sub3
  rw [show decide ((p.length:Int)≤(p.length:Int)∧(p.length:Int)≤(p.length:Int))=true by simp]
  have:=QQ (l:=p) (k:=p.length) (Nat.le_refl _)
  rw [List.take_length] at this
  exact this
 rw [e]
 simp only [Option.bind_some]
 rw [valid_loop p.length p (Nat.le_refl _) h]
 cases validD p<;>rfl
theorem cmul (z k:Nat):((z:Nat):Int)*2^k=((z*2^k:Nat):Int):=by push_cast;rfl
theorem bv32 (n:Nat)(h:n<4294967296):(BitVec.ofInt 32 (n:Int)).toNat=n:=by
 rw [BitVec.ofInt_natCast,BitVec.toNat_ofNat];exact Nat.mod_eq_of_lt h
theorem bor32 (x y:Nat)(hx:x<4294967296)(hy:y<4294967296):bor 32 (x:Int) (y:Int)=((x ||| y:Nat):Int):=by
 unfold bor;rw [BitVec.toNat_or,bv32 x hx,bv32 y hy]
theorem Zo (n:Nat)(h:n<2147483648):w32 (n:Int)=(n:Int):=w32_of (by omega)
theorem bor_low (z x k:Nat)(hx:x<2^k)(hk:k≤18)(hz:z<2048):bor 32 ((z*2^k:Nat):Int) (x:Int)=((z*2^k+x:Nat):Int):=by
 have h1:2^k≤2^18:=Nat.pow_le_pow_right (by decide) hk
 have e18:(2:Nat)^18=262144:=by decide
 rw [e18] at h1
 have h2:z*2^k≤2047*262144:=Nat.mul_le_mul (by omega) h1
 rw [bor32 _ _ (by omega) (by omega)]
 have:=Nat.shiftLeft_add_eq_or_of_lt hx z
 rw [Nat.shiftLeft_eq] at this
 rw [this]
def bitOk (b:Nat):Bool:=((u8 (band 8 (b:Int) 63)).toNat==b % 64)&&(((u8 (band 8 (b:Int) 31)).toNat==b % 32)&&(((u8 (band 8 (b:Int) 15)).toNat==b % 16)&&((u8 (band 8 (b:Int) 7)).toNat==b % 8)))
theorem bits_all:(List.range 256).all bitOk=true:=by kernel_rfl
theorem bits (b:UInt8):(u8 (band 8 (b.toNat:Int) 63)).toNat=b.toNat % 64∧(u8 (band 8 (b.toNat:Int) 31)).toNat=b.toNat % 32∧(u8 (band 8 (b.toNat:Int) 15)).toNat=b.toNat % 16∧(u8 (band 8 (b.toNat:Int) 7)).toNat=b.toNat % 8:=by
 have h:=List.all_eq_true.1 bits_all b.toNat (List.mem_range.2 b.toNat_lt)
 simpa [bitOk] using h
def asOk (b:Nat):Bool:=
 (w32 (bor 32 (w32 (bandn 32 (w32 (b:Int)) ((w32 ((w32 (241:Int))*2^31)).fdiv (2^31)))) (w32 (band 32 65533 ((w32 ((w32 (241:Int))*2^31)).fdiv (2^31)))))==65533)&&(w32 (bor 32 (w32 (bandn 32 (w32 (b:Int)) ((w32 ((w32 (240:Int))*2^31)).fdiv (2^31)))) (w32 (band 32 65533 ((w32 ((w32 (240:Int))*2^31)).fdiv (2^31)))))==(b:Int))
theorem as_all:(List.range 256).all asOk=true:=by kernel_rfl
def hiOk (b:Nat):Bool:=bif decide (240≤firstT b) then ((decide (firstT b=240)&&decide (b<128))||(decide (firstT b=241)&&(decide (128≤b∧b<194)||decide (245≤b∧b<256)))) else (decide (firstT b % 8=2)||(decide (firstT b % 8=3)||decide (firstT b % 8=4)))
theorem hi_all:(List.range 256).all hiOk=true:=by kernel_rfl
theorem firstT_hi (b:Nat)(hb:b<256)(h:240≤firstT b):(firstT b=240∧b<128)∨(firstT b=241∧((128≤b∧b<194)∨(245≤b∧b<256))):=by
 have k:=List.all_eq_true.1 hi_all b (List.mem_range.2 hb)
 unfold hiOk at k
 rw [show decide (240≤firstT b)=true by rw [decide_eq_true_eq];exact h] at k
 simpa using k
theorem firstT_lo (b:Nat)(hb:b<256)(h: ¬ 240≤firstT b):firstT b % 8=2∨firstT b % 8=3∨firstT b % 8=4:=by
 have k:=List.all_eq_true.1 hi_all b (List.mem_range.2 hb)
 unfold hiOk at k
 rw [show decide (240≤firstT b)=false by rw [decide_eq_false_iff_not];exact h] at k
 simpa using k
theorem slow_ok (p:Str)(hne:p≠[])(hB:p.length<4611686018427387904):ZJ p=some (((decodeL p).1:Int),((decodeL p).2:Int)):=by
 have hl:0<p.length:=List.length_pos_iff.2 hne
 have k0:=(p.getD 0 0).toNat_lt
 have k1:=(p.getD 1 0).toNat_lt
 have k2:=(p.getD 2 0).toNat_lt
 have k3:=(p.getD 3 0).toNat_lt
 rw [Go.Lib.decodeL_N]
 unfold ZJ
 have e:decide ((p.length:Int)<1)=false:=by simp;omega
 have a0:at' p 0=some (p.getD 0 0):=at_get (i:=0) hl
 obtain ⟨v,r,t1,t2,t3,t4,t5,t6⟩:=tabs (p.getD 0 0)
 simp only [e,cond_false,a0,Option.bind_some,t1,t3,t6]
 by_cases has:240≤firstT (p.getD 0 0).toNat
 ·rw [show decide ((v.toNat:Int)≥240)=true by rw [decide_eq_true_eq];omega]
  have ht:=List.all_eq_true.1 as_all (p.getD 0 0).toNat (List.mem_range.2 k0)
  simp only [asOk,Bool.and_eq_true,beq_iff_eq] at ht
  rcases firstT_hi _ k0 has with ⟨h1,h2⟩|⟨h1,h2⟩
  ·rw [h1] at t2
   rw [t2]
   simp only [cond_true]
   rw [show ((240:Nat):Int)=240 from rfl,ht.2]
   unfold decodeN
   rw [if_pos h2];rfl
  ·rw [h1] at t2
   rw [t2]
   simp only [cond_true]
   rw [show ((241:Nat):Int)=241 from rfl,ht.1,Go.Lib.decodeN_bad _ _ _ _ _ h2];rfl
 ·rw [show decide ((v.toNat:Int)≥240)=false by rw [decide_eq_false_iff_not];omega]
  simp only [cond_false]
  rw [←Go.Lib.slow_eq p.length (p.getD 0 0).toNat (p.getD 1 0).toNat (p.getD 2 0).toNat (p.getD 3 0).toNat (by omega) k1 k2 k3 (by omega)]
  rw [←t4,←t5]
  have hsz:=firstT_lo (p.getD 0 0).toNat k0 has
  generalize firstT (p.getD 0 0).toNat % 8=sz at hsz
  obtain ⟨m1,m2,m3,m4⟩:=bits (p.getD 0 0);obtain ⟨n1,n2,n3,n4⟩:=bits (p.getD 1 0);obtain ⟨o1,o2,o3,o4⟩:=bits (p.getD 2 0);obtain ⟨q1,q2,q3,q4⟩:=bits (p.getD 3 0);unfold slowN
  by_cases c0:p.length<sz
  ·rw [if_pos c0,show decide ((p.length:Int)<(sz:Int))=true by rw [decide_eq_true_eq];omega];rfl
  ·rw [if_neg c0,show decide ((p.length:Int)<(sz:Int))=false by rw [decide_eq_false_iff_not];omega]
   have a1:at' p 1=some (p.getD 1 0):=at_get (i:=1) (by omega)
   simp only [cond_false,a1,Option.bind_some]
   by_cases c1:(p.getD 1 0).toNat<r.lo.toNat
   ·rw [if_pos (Or.inl c1),show decide (((p.getD 1 0).toNat:Int)<(r.lo.toNat:Int))=true by rw [decide_eq_true_eq];omega];rfl
   ·rw [show decide (((p.getD 1 0).toNat:Int)<(r.lo.toNat:Int))=false by rw [decide_eq_false_iff_not];omega]
    simp only [cond_false,Option.bind_some]
    by_cases c2:r.hi.toNat<(p.getD 1 0).toNat
    ·rw [if_pos (Or.inr c2),show decide ((r.hi.toNat:Int)<((p.getD 1 0).toNat:Int))=true by rw [decide_eq_true_eq];omega];rfl
    ·rw [if_neg (by omega),show decide ((r.hi.toNat:Int)<((p.getD 1 0).toNat:Int))=false by rw [decide_eq_false_iff_not];omega]
     simp only [cond_false]
     by_cases s2:sz=2
     ·rw [if_pos (by omega),show decide ((sz:Int)≤2)=true by rw [decide_eq_true_eq];omega]
      simp only [cond_true]
      rw [m2,n1,Zo _ (by omega),show (((p.getD 0 0).toNat % 32:Nat):Int)*2^6=(((p.getD 0 0).toNat % 32*2^6:Nat):Int) from cmul _ _,Zo _ (by omega),Zo _ (by omega),bor_low _ _ 6 (by omega) (by omega) (by omega),Zo _ (by omega)]
      congr 1
     ·rw [if_neg (by omega),show decide ((sz:Int)≤2)=false by rw [decide_eq_false_iff_not];omega]
      have a2:at' p 2=some (p.getD 2 0):=at_get (i:=2) (by omega)
      simp only [cond_false,a2,Option.bind_some]
      by_cases c3:(p.getD 2 0).toNat<128
      ·rw [if_pos (Or.inl c3),show decide (((p.getD 2 0).toNat:Int)<128)=true by rw [decide_eq_true_eq];omega];rfl
      ·rw [show decide (((p.getD 2 0).toNat:Int)<128)=false by rw [decide_eq_false_iff_not];omega]
       simp only [cond_false,Option.bind_some]
       by_cases c4:191<(p.getD 2 0).toNat
       ·rw [if_pos (Or.inr c4),show decide (191<((p.getD 2 0).toNat:Int))=true by rw [decide_eq_true_eq];omega];rfl
       ·rw [if_neg (by omega),show decide (191<((p.getD 2 0).toNat:Int))=false by rw [decide_eq_false_iff_not];omega]
        simp only [cond_false]
        by_cases s3:sz=3
        ·rw [if_pos (by omega),show decide ((sz:Int)≤3)=true by rw [decide_eq_true_eq];omega]
         simp only [cond_true]
         rw [m3,n1,o1,Zo ((p.getD 0 0).toNat % 16) (by omega),show (((p.getD 0 0).toNat % 16:Nat):Int)*2^12=(((p.getD 0 0).toNat % 16*2^12:Nat):Int) from cmul _ _,Zo ((p.getD 1 0).toNat % 64) (by omega),show (((p.getD 1 0).toNat % 64:Nat):Int)*2^6=(((p.getD 1 0).toNat % 64*2^6:Nat):Int) from cmul _ _,Zo ((p.getD 0 0).toNat % 16*2^12) (by omega),Zo ((p.getD 1 0).toNat % 64*2^6) (by omega),bor_low _ _ 12 (by omega) (by omega) (by omega),Zo _ (by omega),Zo ((p.getD 2 0).toNat % 64) (by omega),
          show (p.getD 0 0).toNat % 16*2^12+(p.getD 1 0).toNat % 64*2^6=((p.getD 0 0).toNat % 16*64+(p.getD 1 0).toNat % 64)*2^6 by omega,bor_low _ _ 6 (by omega) (by omega) (by omega),Zo _ (by omega)]
         have e:((p.getD 0 0).toNat % 16*64+(p.getD 1 0).toNat % 64)*2^6+(p.getD 2 0).toNat % 64=(p.getD 0 0).toNat % 16*4096+(p.getD 1 0).toNat % 64*64+(p.getD 2 0).toNat % 64:=by omega
         rw [e];rfl
        ·rw [if_neg (by omega),show decide ((sz:Int)≤3)=false by rw [decide_eq_false_iff_not];omega]
         have a3:at' p 3=some (p.getD 3 0):=at_get (i:=3) (by omega)
         simp only [cond_false,a3,Option.bind_some]
         by_cases c5:(p.getD 3 0).toNat<128
         ·rw [if_pos (Or.inl c5),show decide (((p.getD 3 0).toNat:Int)<128)=true by rw [decide_eq_true_eq];omega];rfl
         ·rw [show decide (((p.getD 3 0).toNat:Int)<128)=false by rw [decide_eq_false_iff_not];omega]
          simp only [cond_false,Option.bind_some]
          by_cases c6:191<(p.getD 3 0).toNat
          ·rw [if_pos (Or.inr c6),show decide (191<((p.getD 3 0).toNat:Int))=true by rw [decide_eq_true_eq];omega];rfl
          ·rw [if_neg (by omega),show decide (191<((p.getD 3 0).toNat:Int))=false by rw [decide_eq_false_iff_not];omega]
           simp only [cond_false]
           rw [m4,n1,o1,q1,Zo ((p.getD 0 0).toNat % 8) (by omega),show (((p.getD 0 0).toNat % 8:Nat):Int)*2^18=(((p.getD 0 0).toNat % 8*2^18:Nat):Int) from cmul _ _,Zo ((p.getD 1 0).toNat % 64) (by omega),show (((p.getD 1 0).toNat % 64:Nat):Int)*2^12=(((p.getD 1 0).toNat % 64*2^12:Nat):Int) from cmul _ _,Zo ((p.getD 2 0).toNat % 64) (by omega),show (((p.getD 2 0).toNat % 64:Nat):Int)*2^6=(((p.getD 2 0).toNat % 64*2^6:Nat):Int) from cmul _ _,Zo ((p.getD 0 0).toNat % 8*2^18) (by omega),Zo ((p.getD 1 0).toNat % 64*2^12) (by omega),Zo ((p.getD 2 0).toNat % 64*2^6) (by omega),Zo ((p.getD 3 0).toNat % 64) (by omega),
            bor_low _ _ 18 (by omega) (by omega) (by omega),Zo _ (by omega),
            show (p.getD 0 0).toNat % 8*2^18+(p.getD 1 0).toNat % 64*2^12=((p.getD 0 0).toNat % 8*64+(p.getD 1 0).toNat % 64)*2^12 by omega,bor_low _ _ 12 (by omega) (by omega) (by omega),Zo _ (by omega)]
           have e:((p.getD 0 0).toNat % 8*64+(p.getD 1 0).toNat % 64)*2^12+(p.getD 2 0).toNat % 64*2^6=(((p.getD 0 0).toNat % 8*64+(p.getD 1 0).toNat % 64)*64+(p.getD 2 0).toNat % 64)*2^6:=by omega
           have h32:(((p.getD 0 0).toNat % 8*64+(p.getD 1 0).toNat % 64)*64+(p.getD 2 0).toNat % 64)*2^6<2147483648:=by omega
           rw [e,bor32 _ _ (by omega) (by omega)]
           have e2:=Nat.shiftLeft_add_eq_or_of_lt (show (p.getD 3 0).toNat % 64<2^6 by omega) (((p.getD 0 0).toNat % 8*64+(p.getD 1 0).toNat % 64)*64+(p.getD 2 0).toNat % 64)
           rw [Nat.shiftLeft_eq] at e2
           rw [←e2,Zo _ (by omega)]
           have e3:(((p.getD 0 0).toNat % 8*64+(p.getD 1 0).toNat % 64)*64+(p.getD 2 0).toNat % 64)*2^6+(p.getD 3 0).toNat % 64=(p.getD 0 0).toNat % 8*262144+(p.getD 1 0).toNat % 64*4096+(p.getD 2 0).toNat % 64*64+(p.getD 3 0).toNat % 64:=by omega
           rw [e3];rfl
open Go.Lib (decodeL decodeN validD firstT accLo accHi checkN slowN)
theorem DecodeRune_eq (p:Str)(hne:p≠[])(hB:p.length<4611686018427387904):Qa p=some (((decodeL p).1:Int),((decodeL p).2:Int)):=by
 have hl:0<p.length:=List.length_pos_iff.2 hne
 have a0:at' p 0=some (p.getD 0 0):=at_get (i:=0) hl
 have e:decide (0<(p.length:Int))=true:=by simp;omega
 unfold Qa
 by_cases h:(p.getD 0 0).toNat<128
 ·have e1:decide (((p.getD 0 0).toNat:Int)<128)=true:=by rw [decide_eq_true_eq];omega
  rw [zg (q:= .inl (w32 ((p.getD 0 0).toNat:Int))) (by
   unfold Qt
   simp only [e,cond_true,a0,Option.bind_some,e1])]
  rw [Go.Lib.decodeL_N,Zo _ (by omega)]
  unfold decodeN
  rw [if_pos h];rfl
 ·have e1:decide (((p.getD 0 0).toNat:Int)<128)=false:=by rw [decide_eq_false_iff_not];omega
  rw [zg (q:= .inr ()) (by
   unfold Qt
   simp only [e,cond_true,a0,Option.bind_some,e1,cond_false])]
  simp only [Option.bind_some,Sum.elim_inr,slow_ok p hne hB]
def runesL (s:Str):List Int:=chs s.length s
theorem chs_fuel: ∀ (n m:Nat) (s:Str),s.length≤n→s.length≤m→chs n s=chs m s:=by
 intro n
 induction n with
 |zero=>
  intro m s h1 h2
  obtain rfl:=List.length_eq_zero_iff.1 (Nat.le_zero.1 h1)
  cases m<;>simp [chs]
 |succ n ih=>
  intro m s h1 h2
  cases m with
  |zero=>
   obtain rfl:=List.length_eq_zero_iff.1 (Nat.le_zero.1 h2)
   simp [chs]
  |succ m=>
   unfold chs
   by_cases hs:s=[]
   ·rw [if_pos hs,if_pos hs]
   ·rw [if_neg hs,if_neg hs]
    have hw:=Go.Lib.decodeL_width s
    have hl:0<s.length:=List.length_pos_iff.2 hs
    rw [ih m _ (by rw [List.length_drop];omega) (by rw [List.length_drop];omega)]
theorem runesL_step (s:Str)(hs:s≠[]):runesL s=((decodeL s).1:Int)::runesL (s.drop (decodeL s).2):=by
 unfold runesL
 have hw:=Go.Lib.decodeL_width s
 have hl:0<s.length:=List.length_pos_iff.2 hs
 obtain ⟨n,hn⟩: ∃ n,s.length=n+1:=⟨s.length-1,by omega⟩
 rw [hn]
 show (if s=[] then [] else ((decodeL s).1:Int)::chs n (s.drop (decodeL s).2))=_
 rw [if_neg hs,chs_fuel n (s.drop (decodeL s).2).length _ (by rw [List.length_drop];omega) (Nat.le_refl _)]
theorem runesL_nil:runesL []=[]:=rfl
theorem runesL_len: ∀ (n:Nat) (s:Str),s.length≤n→(runesL s).length≤s.length:=by
 intro n
 induction n with
 |zero=>
  intro s h
  obtain rfl:=List.length_eq_zero_iff.1 (Nat.le_zero.1 h)
  simp [runesL_nil]
 |succ n ih=>
  intro s h
  by_cases hs:s=[]
  ·subst hs;simp [runesL_nil]
  ·have hw:=Go.Lib.decodeL_width s
   have hl:0<s.length:=List.length_pos_iff.2 hs
   rw [runesL_step s hs,List.length_cons]
   have:=ih (s.drop (decodeL s).2) (by rw [List.length_drop];omega)
   rw [List.length_drop] at this
   omega
theorem Chars_loop (b:Str)(hB:b.length<1099511627776): ∀ (n i:Nat) (out:List Int),b.length-i≤n→i≤b.length→out.length≤i→iter (Qi b) ((i:Int),out)=some (out++runesL (b.drop i)):=by
 intro n
 induction n with
 |zero=>
  intro i out h1 h2 h3
  refine zg ?_;unfold Qi
  have e:decide ((i:Int)<(b.length:Int))=false:=by rw [decide_eq_false_iff_not];omega
  rw [List.drop_of_length_le (by omega),runesL_nil]
  simp only [e,cond_false,List.append_nil]
 |succ n ih=>
  intro i out h1 h2 h3
  by_cases hi:i<b.length
  ·have hne:b.drop i≠[]:=by
    intro h
    have:=congrArg List.length h
    simp at this;omega
   have hw:=Go.Lib.decodeL_width (b.drop i)
   have hle:=Go.Lib.decodeL_le (b.drop i) hne
   rw [List.length_drop] at hle
   have k:=ih (i+(decodeL (b.drop i)).2) (out++[((decodeL (b.drop i)).1:Int)]) (by omega) (by omega) (by simp;omega)
   rw [runesL_step _ hne,List.drop_drop,←List.singleton_append,←List.append_assoc,←k]
   refine zt ?_;unfold Qi
   have e:decide ((i:Int)<(b.length:Int))=true:=by rw [decide_eq_true_eq];omega
   simp only [e,cond_true]
   rw [qP (by omega)]
   simp only [Option.bind_some]
   rw [DecodeRune_eq _ hne (by rw [List.length_drop];omega)]
   simp only [Option.bind_some]
   rw [Z3 (by simp;omega)]
   simp only [Option.bind_some]
   rw [qv (by omega)]
   congr 3
  ·refine zg ?_;unfold Qi
   have e:decide ((i:Int)<(b.length:Int))=false:=by rw [decide_eq_false_iff_not];omega
   rw [List.drop_of_length_le (by omega),runesL_nil]
   simp only [e,cond_false,List.append_nil]
theorem Chars_eq (b:Str)(hB:b.length<1099511627776):zaw b=some (bif validD b then (runesL b,true) else ([],false)):=by
 unfold zaw utf_Valid
 rw [Valid_eq b (by omega)]
 simp only [Option.bind_some]
 cases validD b with
 |false=>rfl
 |true=>
  have:=Chars_loop b hB b.length 0 [] (by omega) (by omega) (by simp)
  rw [List.drop_zero,List.nil_append] at this
  simp only [Bool.not_true,cond_false,cond_true]
  rw [show iter (Qi b) (0,[])=some (runesL b) from this];rfl
def xmlc (r:Int):Bool:=decide (r=9∨r=10∨r=13∨(32≤r∧r≤55295)∨(57344≤r∧r≤65533)∨(65536≤r∧r≤1114111))
theorem Xml_eq (r:Int):utf_Xml r=some (xmlc r):=by
 unfold utf_Xml xmlc
 by_cases h9:r=9
 ·subst h9;rfl
 by_cases h10:r=10
 ·subst h10;rfl
 by_cases h13:r=13
 ·subst h13;rfl
 rw [show (r==9)=false by simpa using h9,show (r==10)=false by simpa using h10,show (r==13)=false by simpa using h13]
 simp only [cond_false,Option.bind_some,Sum.elim_inr]
 by_cases a:r≥32<;>by_cases b:r≤55295<;>by_cases c:r≥57344<;>by_cases d:r≤65533<;>by_cases e:r≥65536<;>by_cases f:r≤1114111<;>simp only [a,b,c,d,e,f,h9,h10,h13,decide_true,decide_false,cond_true,cond_false,ge_iff_le]<;>first|rfl|(congr 1;simp only [eq_comm,decide_eq_true_eq,decide_eq_false_iff_not];omega)|omega
theorem Text_loop (v:List Int×Bool)(hB:v.1.length<4611686018427387904): ∀ (n i:Nat) (q:Bool),v.1.length-i≤n→i≤v.1.length→iter (zax v) (q,(i:Int))=some (q&&(v.1.drop i).all xmlc):=by
 intro n
 induction n with
 |zero=>
  intro i q h1 h2
  refine zg ?_;unfold zax
  have e:decide ((i:Int)<(v.1.length:Int))=false:=by rw [decide_eq_false_iff_not];omega
  rw [List.drop_of_length_le (by omega)]
  simp only [e,cond_false,List.all_nil,Bool.and_true]
 |succ n ih=>
  intro i q h1 h2
  by_cases hi:i<v.1.length
  ·rw [List.drop_eq_getElem_cons hi,List.all_cons]
   have e:decide ((i:Int)<(v.1.length:Int))=true:=by rw [decide_eq_true_eq];omega
   have k:=ih (i+1) (q&&xmlc v.1[i]) (by omega) (by omega)
   rw [Bool.and_assoc] at k
   rw [←k]
   refine zt ?_;unfold zax
   simp only [e,cond_true]
   rw [z7 hi]
   simp only [Option.bind_some,Xml_eq]
   rw [qb (by omega)]
   cases q<;>rfl
  ·refine zg ?_;unfold zax
   have e:decide ((i:Int)<(v.1.length:Int))=false:=by rw [decide_eq_false_iff_not];omega
   rw [List.drop_of_length_le (by omega)]
   simp only [e,cond_false,List.all_nil,Bool.and_true]
def textB (b:Str):Bool:=validD b&&(runesL b).all xmlc
theorem Text_eq (b:Str)(hB:b.length<1099511627776):utf_Text b=some (textB b):=by
 unfold utf_Text
 rw [Chars_eq b hB]
 simp only [Option.bind_some]
 have hl:=runesL_len b.length b (Nat.le_refl _)
 have:=Text_loop (bif validD b then (runesL b,true) else ([],false)) (by cases validD b<;>simp;omega) (bif validD b then (runesL b,true) else ([],false)).1.length 0 (bif validD b then (runesL b,true) else ([],false)).2 (by omega) (by omega)
 rw [show ((0:Nat):Int)=0 from rfl] at this
 rw [this]
 unfold textB
 cases validD b<;>simp
open Go.Lib (index contains cut count countB replaceK replaceAll)
theorem sub_mid {α:Type}{l:List α}{i j:Nat}(h1:i≤j)(h2:j≤l.length):sub' l (i:Int) (j:Int)=some ((l.drop i).take (j-i)):=by
 unfold sub'
 rw [show decide ((0:Int)≤(i:Int)∧(i:Int)≤(j:Int)∧(j:Int)≤(l.length:Int))=true by simp;omega]
 simp
theorem pfx_take (p s:Str):p.isPrefixOf s=(decide (p.length≤s.length)&&(s.take p.length==p)):=by
 rw [Bool.eq_iff_iff]
 simp only [List.isPrefixOf_iff_prefix,Bool.and_eq_true,decide_eq_true_eq,beq_iff_eq]
 constructor
 ·rintro ⟨t,rfl⟩;simp
 ·rintro ⟨h1,h2⟩;exact ⟨s.drop p.length,(congrArg (· ++s.drop p.length) h2.symm).trans (List.take_append_drop _ _)⟩
theorem HasPrefix_eq (s p:Str):Z7 s p=some (p.isPrefixOf s):=by
 unfold Z7 Zg
 rw [pfx_take]
 by_cases h:p.length≤s.length
 ·rw [show decide ((s.length:Int)≥(p.length:Int))=true by rw [decide_eq_true_eq];omega,QQ h]
  simp [h]
 ·rw [show decide ((s.length:Int)≥(p.length:Int))=false by rw [decide_eq_false_iff_not];omega]
  simp [h]
def cutP (p s:Str):Str×Bool:=bif p.isPrefixOf s then (s.drop p.length,true) else (s,false)
theorem CutPrefix_eq (s p:Str):qE s p=some (cutP p s):=by
 unfold qE QG cutP
 have h:=HasPrefix_eq s p
 unfold Z7 at h
 cases hh:Zg s p with
 |none=>rw [hh] at h;cases h
 |some v=>
  rw [hh] at h
  simp only [Option.bind_some,Option.some.injEq] at h
  subst h
  simp only [Option.bind_some]
  cases hp:p.isPrefixOf s with
  |false=>rfl
  |true=>
   rw [pfx_take] at hp
   simp only [Bool.and_eq_true,decide_eq_true_eq] at hp
   simp only [Bool.not_true,cond_false,cond_true]
   rw [qP hp.1];rfl
theorem Index_eq (s t:Str)(h:s.length<4294967281):Ql s t=some (index s t):=by
 unfold Ql stringslite_Index
 rw [show decide (s.length<4294967281)=true by simp;omega];rfl
theorem Jj (s t:Str)(h:s.length<4294967281):qD s t=some (contains s t):=by
 unfold qD
 rw [Index_eq s t h];rfl
theorem Cut_eq (s t:Str)(h:s.length<4294967281):qw s t=some (cut s t):=by
 have hi:=Index_eq s t h
 unfold Ql at hi;unfold qw zah cut
 cases hh:stringslite_Index s t with
 |none=>rw [hh] at hi;cases hi
 |some v=>
  rw [hh] at hi
  simp only [Option.bind_some,Option.some.injEq] at hi
  subst hi
  simp only [Option.bind_some]
  by_cases h0:0≤index s t
  ·have hr:=Go.Lib.index_room s t h0
   obtain ⟨i,hi⟩: ∃ i:Nat,index s t=(i:Int):=⟨(index s t).toNat,by omega⟩
   rw [hi] at h0 hr ⊢
   rw [if_pos h0,show decide ((i:Int)≥0)=true by simp,QQ (by omega)]
   simp only [cond_true,Option.bind_some,Int.toNat_natCast]
   rw [show w64 ((i:Int)+(t.length:Int))=((i+t.length:Nat):Int) by rw [qv (by omega)];omega,qP (by omega)];rfl
  ·rw [if_neg h0,show decide (index s t≥0)=false by rw [decide_eq_false_iff_not];omega];rfl
theorem Count_eq (s t:Str)(h:s.length<4294967281)(ht:t≠[]):zag s t=some ((count s t:Nat):Int):=by
 unfold zag
 have:1≤t.length:=List.length_pos_iff.2 ht
 rw [show decide (s.length<4294967281∧1≤t.length)=true by simp;omega]
 simp
theorem count_mul (s t:Str)(ht:t≠[]):count s t*t.length≤s.length:=by
 have h1:1≤t.length:=List.length_pos_iff.2 ht
 have:=Go.Lib.countB_mul_le ⟨t.toArray⟩ (by simpa [ByteArray.size] using h1) s.length ⟨s.toArray⟩ (by simp [ByteArray.size])
 simpa [ByteArray.size] using this
theorem replaceK_len (old new:Str)(hn:new.length≤old.length): ∀ (k:Nat) (s:Str),(replaceK old new k s).length≤s.length:=by
 intro k
 induction k with
 |zero=>intro s;exact Nat.le_refl _
 |succ k ih=>
  intro s
  unfold replaceK
  split
  ·exact Nat.le_refl _
  ·rename_i h
   have hge:=Go.Lib.index_ge s old
   have h0:0≤index s old:=by
    have:index s old≠ -1:=by simpa using h
    omega
   have hr:=Go.Lib.index_room s old h0
   have:=ih (s.drop ((index s old).toNat+old.length))
   simp only [List.length_append,List.length_take,List.length_drop] at this ⊢
   omega
theorem write_eq (x:Str)(b:Bool)(out:Str)(h:out.length+x.length≤140737488355328):zf x b out=some ((x.length:Int),out++x):=by
 unfold zf Zq
 rw [Z3 (by omega)]
 cases b<;>rfl
theorem rep_loop (s old new:Str)(v2:Nat)(hold:old≠[])(hn:new.length≤old.length)(hs:s.length<1073741824)(hv:v2≤4294967296): ∀ (K i start:Nat) (out:Str),i+K=v2→start≤s.length→count (s.drop start) old=K→out.length≤start→
 ∃ (e:Nat) (o:Str),iter (ZT s old new (v2:Int)) ((start:Int),(i:Int),out)=some ((e:Int),o)∧e≤s.length∧o.length≤e∧o++s.drop e=out++replaceK old new K (s.drop start):=by
 intro K
 induction K with
 |zero=>
  intro i start out h1 h2 h3 h4
  refine ⟨start,out,zg ?_,h2,h4,rfl⟩;unfold ZT
  have e:decide ((i:Int)<(v2:Int))=false:=by rw [decide_eq_false_iff_not];omega
  simp only [e,cond_false]
 |succ K ih=>
  intro i start out h1 h2 h3 h4
  obtain ⟨j,hj⟩:=Go.Lib.index_of_count (s:=s.drop start) (old:=old) (by omega)
  have hr:=Go.Lib.index_room (s.drop start) old (by omega)
  rw [hj,List.length_drop] at hr
  have hc:=Go.Lib.count_hit hold hj
  rw [h3,List.drop_drop] at hc
  obtain ⟨e,o,k1,k2,k3,k4⟩:=ih (i+1) (start+(j+old.length)) (out++((s.drop start).take j)++new) (by omega) (by omega) (by omega) (by simp;omega);refine ⟨e,o,?_,k2,k3,?_⟩
  ·rw [←k1]
   refine zt ?_;unfold ZT
   have e:decide ((i:Int)<(v2:Int))=true:=by rw [decide_eq_true_eq];omega
   simp only [e,cond_true]
   rw [qP h2]
   simp only [Option.bind_some]
   rw [Index_eq _ _ (by rw [List.length_drop];omega),hj]
   simp only [Option.bind_some]
   rw [show w64 ((start:Int)+(j:Int))=((start+j:Nat):Int) by rw [qv (by omega)];omega,sub_mid (by omega) (by omega)]
   simp only [Option.bind_some]
   rw [show start+j-start=j by omega,write_eq _ _ _ (by simp;omega)]
   simp only [Option.bind_some]
   rw [write_eq _ _ _ (by simp;omega)]
   simp only [Option.bind_some]
   rw [show w64 (((start+j:Nat):Int)+(old.length:Int))=((start+(j+old.length):Nat):Int) by rw [qv (by omega)];omega,qb (by omega)]
  ·rw [k4,Go.Lib.replaceK_hit old new K _ j hj,List.drop_drop]
   simp only [List.append_assoc]
theorem Replace_eq (s old new:Str)(hold:old≠[])(hne:old≠new)(hn:new.length≤old.length)(hs:s.length<1073741824):JA s old new (-1)=some (replaceAll s old new):=by
 have hc:=count_mul s old hold
 have hold1:1≤old.length:=List.length_pos_iff.2 hold
 have hcs:count s old≤s.length:=Nat.le_trans (Nat.le_mul_of_pos_right _ hold1) hc
 unfold JA replaceAll Go.Lib.replace Go.Lib.replaceNum
 rw [show (old==new)=false by simpa using hne,if_pos (Or.inl (by decide))]
 simp only [cond_false,Option.bind_some,Bool.false_eq_true,if_false]
 rw [show ((-1:Int)==0)=false from rfl]
 simp only [cond_false]
 rw [Count_eq s old (by omega) hold]
 simp only [Option.bind_some]
 by_cases h0:count s old=0
 ·rw [h0,show (((0:Nat):Int)==0)=true from rfl];rfl
 ·rw [show (((count s old:Nat):Int)==0)=false by simp;omega]
  simp only [cond_false,show decide ((-1:Int)<0)=true from rfl,cond_true,Option.bind_some]
  obtain ⟨e,o,k1,k2,k3,k4⟩:=rep_loop s old new (count s old) hold hn hs (by omega) (count s old) 0 0 [] (by omega) (by omega) (by rw [List.drop_zero]) (by simp)
  have hmul:(count s old:Int)*((old.length:Int)-(new.length:Int))≤s.length:=by
   have h1:(count s old:Int)*((old.length:Int)-(new.length:Int))≤(count s old:Int)*(old.length:Int):=Int.mul_le_mul_of_nonneg_left (by omega) (by omega)
   have h2:((count s old*old.length:Nat):Int)≤(s.length:Int):=by exact_mod_cast hc
   push_cast at h2
   omega
  have hneg:0≤(count s old:Int)*((old.length:Int)-(new.length:Int)):=Int.mul_nonneg (by omega) (by omega)
  have hold2:old.length≤s.length:=by
   have:=Nat.le_mul_of_pos_left old.length (show 0<count s old by omega)
   omega
  have hg:qR (w64 ((s.length:Int)+(w64 ((count s old:Int)*(w64 ((new.length:Int)-(old.length:Int))))))) true=some ():=by
   rw [qv (n:=(new.length:Int)-(old.length:Int)) (by omega)]
   have em:(count s old:Int)*((new.length:Int)-(old.length:Int))= -((count s old:Int)*((old.length:Int)-(new.length:Int))):=by rw [←Int.mul_neg];congr 1;omega
   rw [em,qv (n:= -((count s old:Int)*((old.length:Int)-(new.length:Int)))) (by omega),qv (by omega)]
   generalize hg:(s.length:Int)+ -((count s old:Int)*((old.length:Int)-(new.length:Int)))=g
   have hg0:0≤g∧g≤s.length:=by omega
   unfold qR Zm Z8
   have d1:decide (g<0)=false:=by rw [decide_eq_false_iff_not];omega
   simp only [cond_true,Option.bind_some,d1,cond_false]
   have z1:w64 (2*0)=0:=qv (by omega)
   have z2:w64 (0-0)=0:=qv (by omega)
   rw [z1,z2,qv (n:=0+g) (by omega)]
   cases decide ((0:Int)<g) with
   |false=>rfl
   |true=>
    simp only [cond_true]
    unfold mnz
    rw [if_pos (by omega)]
    simp only [Option.bind_some]
    rw [rng_of (by omega)];rfl
  rw [hg]
  simp only [Option.bind_some,show decide ((old.length:Int)>0)=true by rw [decide_eq_true_eq];omega,cond_true]
  rw [show iter (ZT s old new ((count s old:Nat):Int)) (0,0,[])=some ((e:Int),o) from k1]
  simp only [Option.bind_some]
  rw [qP k2]
  simp only [Option.bind_some]
  rw [write_eq _ _ _ (by simp;omega)]
  simp only [Option.bind_some]
  rw [k4,List.nil_append,List.drop_zero]
  have hlen:=replaceK_len old new hn (count s old) s
  unfold zB unsf
  rw [if_pos (by omega)];rfl
theorem replaceAll_len (s old new:Str)(hn:new.length≤old.length):(replaceAll s old new).length≤s.length:=by
 unfold replaceAll Go.Lib.replace
 split
 ·exact Nat.le_refl _
 ·exact replaceK_len old new hn _ s
def lines (s:Str):Str:=replaceAll (replaceAll s [13,10] [10]) [13] [10]
theorem lines_len (s:Str):(lines s).length≤s.length:=Nat.le_trans (replaceAll_len _ _ _ (by simp)) (replaceAll_len _ _ _ (by simp))
theorem Lines_eq (s:Str)(hs:s.length<1073741824):chars_Lines s=some (lines s):=by
 unfold chars_Lines Qw
 rw [Replace_eq s [13,10] [10] (by simp) (by simp) (by simp) hs]
 simp only [Option.bind_some]
 have:=replaceAll_len s [13,10] [10] (by simp)
 rw [Replace_eq _ [13] [10] (by simp) (by simp) (by simp) (by omega)];rfl
open Go.Lib (decodeL decodeN validD)
theorem decodeN_c1 (n b0 b1 b2 b3:Nat)(h:b0<128):decodeN n b0 b1 b2 b3=(b0,1):=by unfold decodeN;rw [if_pos h]
theorem decodeN_c2 (n b0 b1 b2 b3:Nat)(h0:b0 / 32=6)(h1:1<n)(h2:b1 / 64=2)(h3:128≤b0 % 32*64+b1 % 64):decodeN n b0 b1 b2 b3=(b0 % 32*64+b1 % 64,2):=by
 unfold decodeN;rw [if_neg (by omega),if_pos ⟨h0,h1,h2⟩,if_pos (by omega)]
theorem decodeN_c3 (n b0 b1 b2 b3:Nat)(h0:b0 / 16=14)(h1:2<n)(h2:b1 / 64=2)(h3:b2 / 64=2)(h4:2048≤b0 % 16*4096+b1 % 64*64+b2 % 64)(h5:b0 % 16*4096+b1 % 64*64+b2 % 64<55296∨57344≤b0 % 16*4096+b1 % 64*64+b2 % 64):decodeN n b0 b1 b2 b3=(b0 % 16*4096+b1 % 64*64+b2 % 64,3):=by
 unfold decodeN;rw [if_neg (by omega),if_neg (by omega),if_pos ⟨h0,⟨by omega,h2⟩,h1,h3⟩,if_pos (by omega)]
theorem decodeN_c4 (n b0 b1 b2 b3:Nat)(h0:b0 / 8=30)(h1:3<n)(h2:b1 / 64=2)(h3:b2 / 64=2)(h4:b3 / 64=2)(h5:65536≤b0 % 8*262144+b1 % 64*4096+b2 % 64*64+b3 % 64)(h6:b0 % 8*262144+b1 % 64*4096+b2 % 64*64+b3 % 64≤1114111):decodeN n b0 b1 b2 b3=(b0 % 8*262144+b1 % 64*4096+b2 % 64*64+b3 % 64,4):=by
 unfold decodeN;rw [if_neg (by omega),if_neg (by omega),if_neg (by omega),if_pos ⟨h0,⟨by omega,h2⟩,⟨by omega,h3⟩,h1,h4⟩,if_pos (by omega)]
def err (l:Str):Prop:=(decodeL l).1=65533∧(decodeL l).2=1
instance (l:Str):Decidable (err l):=inferInstanceAs (Decidable (_∧_))
theorem getD_app (a b:Str)(i:Nat)(h:i<a.length):(a++b).getD i 0=a.getD i 0:=by
 simp only [List.getD_eq_getElem?_getD]
 rw [List.getElem?_append_left h]
theorem dec_shape (l:Str)(hne:l≠[])(hv: ¬ err l):
 (decodeL l).2≤l.length∧(((decodeL l).2=1∧(l.getD 0 0).toNat<128∧(decodeL l).1=(l.getD 0 0).toNat)∨(2≤(decodeL l).2∧ ∀ i,i<(decodeL l).2→128≤(l.getD i 0).toNat))∧
 ∀ m:Str,(decodeL l).2≤m.length→(∀ i,i<(decodeL l).2→m.getD i 0=l.getD i 0)→decodeL m=decodeL l:=by
 have hl:0<l.length:=List.length_pos_iff.2 hne
 unfold err at hv
 rw [Go.Lib.decodeL_N] at hv ⊢
 rcases Go.Lib.decodeN_shape l.length (l.getD 0 0).toNat (l.getD 1 0).toNat (l.getD 2 0).toNat (l.getD 3 0).toNat with ⟨c,e⟩|⟨c1,c2,c3,cv,e⟩|⟨c1,c2,c3,c4,cv,cs,e⟩|⟨c1,c2,c3,c4,c5,cv,cw,e⟩|e
 ·rw [e]
  dsimp only
  refine ⟨by omega,Or.inl ⟨rfl,c,rfl⟩,fun m hm hg=> ?_⟩
  rw [Go.Lib.decodeL_N,hg 0 (by decide),decodeN_c1 _ _ _ _ _ c]
 ·rw [e]
  dsimp only
  refine ⟨by omega,Or.inr ⟨Nat.le_refl _,fun i hi=> ?_⟩,fun m hm hg=> ?_⟩
  ·match i,hi with
   |0,_=>omega
   |1,_=>omega
  ·have hm:2≤m.length:=hm
   rw [Go.Lib.decodeL_N,hg 0 (by decide),hg 1 (by decide),decodeN_c2 _ _ _ _ _ c1 (by omega) c3 cv]
 ·rw [e]
  dsimp only
  refine ⟨by omega,Or.inr ⟨by decide,fun i hi=> ?_⟩,fun m hm hg=> ?_⟩
  ·match i,hi with
   |0,_=>omega
   |1,_=>omega
   |2,_=>omega
  ·have hm:3≤m.length:=hm
   rw [Go.Lib.decodeL_N,hg 0 (by decide),hg 1 (by decide),hg 2 (by decide),decodeN_c3 _ _ _ _ _ c1 (by omega) c3 c4 cv cs]
 ·rw [e]
  dsimp only
  refine ⟨by omega,Or.inr ⟨by decide,fun i hi=> ?_⟩,fun m hm hg=> ?_⟩
  ·match i,hi with
   |0,_=>omega
   |1,_=>omega
   |2,_=>omega
   |3,_=>omega
  ·have hm:4≤m.length:=hm
   rw [Go.Lib.decodeL_N,hg 0 (by decide),hg 1 (by decide),hg 2 (by decide),hg 3 (by decide),decodeN_c4 _ _ _ _ _ c1 (by omega) c3 c4 c5 cv cw]
 ·rw [e] at hv;exact absurd ⟨rfl,rfl⟩ hv
theorem Jv (s:Str)(hs:s≠[]):textB s=(!(decide (err s))&&(xmlc ((decodeL s).1:Int)&&textB (s.drop (decodeL s).2))):=by
 unfold textB
 rw [Go.Lib.validD_step s hs,runesL_step s hs,List.all_cons]
 by_cases h:err s
 ·rw [if_pos (show (decodeL s).1=65533∧(decodeL s).2=1 from h)];simp [h]
 ·rw [if_neg (show ¬ ((decodeL s).1=65533∧(decodeL s).2=1) from h)]
  simp only [h,decide_false,Bool.not_false,Bool.true_and]
  cases validD (s.drop (decodeL s).2)<;>cases xmlc ((decodeL s).1:Int)<;>rfl
theorem textB_cons (x:UInt8)(r:Str)(hx:x.toNat<128):textB (x::r)=(xmlc (x.toNat:Int)&&textB r):=by
 have hd:decodeL (x::r)=(x.toNat,1):=by rw [Go.Lib.decodeL_N];exact decodeN_c1 _ _ _ _ _ hx
 rw [Jv _ (by simp),hd]
 have: ¬ err (x::r):=by unfold err;rw [hd];simp;omega
 simp [this]
theorem textB_app: ∀ (n:Nat) (a b:Str),a.length≤n→textB a=true→textB (a++b)=textB b:=by
 intro n
 induction n with
 |zero=>
  intro a b h ha
  obtain rfl:=List.length_eq_zero_iff.1 (Nat.le_zero.1 h);rfl
 |succ n ih=>
  intro a b h ha
  by_cases hs:a=[]
  ·subst hs;rfl
  ·rw [Jv a hs] at ha
   simp only [Bool.and_eq_true,Bool.not_eq_true',decide_eq_false_iff_not] at ha
   obtain ⟨h1,h2,h3⟩:=ha;obtain ⟨k1,k2,k3⟩:=dec_shape a hs h1
   have hw:=Go.Lib.decodeL_width a
   have hd:=k3 (a++b) (by simp;omega) (fun i hi=>getD_app a b i (by omega))
   have hne:a++b≠[]:=by simp [hs]
   rw [Jv _ hne,hd,h2]
   have he: ¬ err (a++b):=by unfold err;rw [hd];exact h1
   simp only [he,decide_false,Bool.not_false,Bool.true_and]
   rw [List.drop_append_of_le_length k1]
   exact ih _ b (by rw [List.length_drop];omega) h3
theorem textB_split: ∀ (n:Nat) (a:Str) (x:UInt8) (r:Str),a.length≤n→x.toNat<128→textB (a++x::r)=true→textB a=true∧textB (x::r)=true:=by
 intro n
 induction n with
 |zero=>
  intro a x r h hx ht
  obtain rfl:=List.length_eq_zero_iff.1 (Nat.le_zero.1 h);exact ⟨rfl,ht⟩
 |succ n ih=>
  intro a x r h hx ht
  by_cases hs:a=[]
  ·subst hs;exact ⟨rfl,ht⟩
  ·have hne:a++x::r≠[]:=by simp
   rw [Jv _ hne] at ht
   simp only [Bool.and_eq_true,Bool.not_eq_true',decide_eq_false_iff_not] at ht
   obtain ⟨h1,h2,h3⟩:=ht;obtain ⟨k1,k2,k3⟩:=dec_shape _ hne h1
   have hw:=Go.Lib.decodeL_width (a++x::r)
   have hla:0<a.length:=List.length_pos_iff.2 hs
   have hle:(decodeL (a++x::r)).2≤a.length:=by
    rcases k2 with ⟨h,_⟩|⟨_,h⟩
    ·omega
    ·apply Classical.byContradiction
     intro hc
     have:=h a.length (by omega)
     rw [List.getD_eq_getElem?_getD,List.getElem?_append_right (Nat.le_refl _),Nat.sub_self] at this
     simp at this;omega
   have hd:=k3 a hle (fun i hi=>(getD_app a (x::r) i (by omega)).symm)
   rw [List.drop_append_of_le_length hle] at h3
   obtain ⟨m1,m2⟩:=ih _ x r (by rw [List.length_drop];omega) hx h3;refine ⟨?_,m2⟩
   rw [Jv a hs,hd,h2]
   have he: ¬ err a:=by unfold err;rw [hd];exact h1
   simp only [he,decide_false,Bool.not_false,Bool.true_and]
   exact m1
theorem textB_split' {a:Str}{x:UInt8}{r:Str}(hx:x.toNat<128)(h:textB (a++x::r)=true):textB a=true∧textB r=true:=by
 obtain ⟨h1,h2⟩:=textB_split a.length a x r (Nat.le_refl _) hx h
 rw [textB_cons x r hx,Bool.and_eq_true] at h2
 exact ⟨h1,h2.2⟩
theorem textB_asc: ∀ (a r:Str),(∀ b∈a,b.toNat<128)→textB (a++r)=true→textB r=true
 |[],r,_,h=>h
 |x::a,r,hx,h=>by
  rw [List.cons_append,textB_cons x _ (hx x (by simp)),Bool.and_eq_true] at h
  exact textB_asc a r (fun b hb=>hx b (by simp [hb])) h.2
open Go.Lib (decodeL decodeN validD index cut contains)
def isB (c:UInt8):Bool:=c.toNat==32||(c.toNat==9||(c.toNat==10||c.toNat==13))
theorem Blank_eq (c:UInt8):QA c=some (isB c):=by
 unfold QA isB
 have e: ∀ n:Nat,((c.toNat:Int)==(n:Int))=(c.toNat==n):=fun n=>by
  rw [Bool.eq_iff_iff];simp only [beq_iff_eq];omega
 have e32:((c.toNat:Int)==32)=(c.toNat==32):=e 32
 have e9:((c.toNat:Int)==9)=(c.toNat==9):=e 9
 have e10:((c.toNat:Int)==10)=(c.toNat==10):=e 10
 have e13:((c.toNat:Int)==13)=(c.toNat==13):=e 13
 rw [e32,e9,e10,e13]
 cases c.toNat==32<;>cases c.toNat==9<;>cases c.toNat==10<;>rfl
theorem isB_asc {c:UInt8}(h:isB c=true):c.toNat<128:=by
 simp only [isB,Bool.or_eq_true,beq_iff_eq] at h;omega
def inS (r:Int)(l:List zN):Bool:=l.any fun v=>decide (r≥v.from_)&&decide (r≤v.to_)
theorem in_loop (r:Int)(l:List zN)(hB:l.length<4611686018427387904): ∀ (n i:Nat),l.length-i≤n→i≤l.length→iter (Js r l) (i:Int)=some (bif inS r (l.drop i) then .inl () else .inr ()):=by
 intro n
 induction n with
 |zero=>
  intro i h1 h2
  refine zg ?_;unfold Js
  have e:decide ((i:Int)<(l.length:Int))=false:=by rw [decide_eq_false_iff_not];omega
  rw [List.drop_of_length_le (by omega)]
  simp only [e,cond_false,inS,List.any_nil]
 |succ n ih=>
  intro i h1 h2
  by_cases hi:i<l.length
  ·have e:decide ((i:Int)<(l.length:Int))=true:=by rw [decide_eq_true_eq];omega
   have k:=ih (i+1) (by omega) (by omega)
   rw [List.drop_eq_getElem_cons hi]
   unfold inS at k ⊢
   rw [List.any_cons]
   cases hc:decide (r≥l[i].from_)&&decide (r≤l[i].to_) with
   |true=>
    refine zg ?_;unfold Js
    simp only [Bool.and_eq_true] at hc
    simp only [e,cond_true]
    rw [z7 hi]
    simp only [Option.bind_some,hc.1,hc.2,cond_true,Bool.true_or]
   |false=>
    rw [Bool.false_or,←k]
    refine zt ?_;unfold Js
    simp only [e,cond_true]
    rw [z7 hi]
    simp only [Option.bind_some]
    rw [qb (by omega)]
    rw [Bool.and_eq_false_iff] at hc
    cases h1:decide (r≥l[i].from_) with
    |false=>rfl
    |true=>
     rw [h1] at hc
     rw [hc.resolve_left (by simp)];rfl
  ·refine zg ?_;unfold Js
   have e:decide ((i:Int)<(l.length:Int))=false:=by rw [decide_eq_false_iff_not];omega
   rw [List.drop_of_length_le (by omega)]
   simp only [e,cond_false,inS,List.any_nil]
theorem in_eq (r:Int)(l:List zN)(hB:l.length<4611686018427387904):name_in r l=some (inS r l):=by
 unfold name_in
 have:=in_loop r l hB l.length 0 (by omega) (by omega)
 rw [List.drop_zero] at this
 rw [show iter (Js r l) 0=_ from this]
 cases inS r l<;>rfl
def spansB:List zN:=[(zN.mk 65 90),(zN.mk 97 122),(zN.mk 192 214),(zN.mk 216 246),(zN.mk 248 767),(zN.mk 880 893),(zN.mk 895 8191),(zN.mk 8204 8205),(zN.mk 8304 8591),(zN.mk 11264 12271),(zN.mk 12289 55295),(zN.mk 63744 64975),(zN.mk 65008 65533),(zN.mk 65536 983039)]
def spansS:List zN:=[(zN.mk 48 57),(zN.mk 768 879),(zN.mk 8255 8256)]
def begC (r:Int):Bool:=r==95||inS r spansB
def staC (r:Int):Bool:=begC r||(r==45||(r==46||(r==183||inS r spansS)))
theorem Begins_eq (r:Int):Ji r=some (begC r):=by
 unfold Ji begC
 have h:name_in r spansB=some (inS r spansB):=in_eq r spansB (by decide)
 unfold spansB at h ⊢
 rw [h]
 cases r==95<;>rfl
theorem Stands_eq (r:Int):Jk r=some (staC r):=by
 unfold Jk staC
 have h:name_in r spansS=some (inS r spansS):=in_eq r spansS (by decide)
 unfold spansS at h ⊢
 rw [Begins_eq,h]
 simp only [Option.bind_some]
 cases begC r<;>cases r==45<;>cases r==46<;>cases r==183<;>rfl
def nameB (s:Str):Bool:=validD s&&(match runesL s with|[]=>false|c::l=>begC c&&l.all staC)
theorem Is_loop (v:List Int×Bool)(hB:v.1.length<4611686018427387904): ∀ (n i:Nat),v.1.length-i≤n→i≤v.1.length→iter (QU v) (i:Int)=some (bif (v.1.drop i).all staC then .inr () else .inl ()):=by
 intro n
 induction n with
 |zero=>
  intro i h1 h2
  refine zg ?_;unfold QU
  have e:decide ((i:Int)<(v.1.length:Int))=false:=by rw [decide_eq_false_iff_not];omega
  rw [List.drop_of_length_le (by omega)]
  simp only [e,cond_false,List.all_nil,cond_true]
 |succ n ih=>
  intro i h1 h2
  by_cases hi:i<v.1.length
  ·have e:decide ((i:Int)<(v.1.length:Int))=true:=by rw [decide_eq_true_eq];omega
   have k:=ih (i+1) (by omega) (by omega)
   rw [List.drop_eq_getElem_cons hi,List.all_cons]
   cases hc:staC v.1[i] with
   |false=>
    refine zg ?_;unfold QU
    simp only [e,cond_true]
    rw [z7 hi]
    simp only [Option.bind_some,Stands_eq,hc,Bool.not_false,cond_true,Bool.false_and,cond_false]
   |true=>
    rw [Bool.true_and,←k]
    refine zt ?_;unfold QU
    simp only [e,cond_true]
    rw [z7 hi]
    simp only [Option.bind_some,Stands_eq,hc,Bool.not_true,cond_false]
    rw [qb (by omega)]
  ·refine zg ?_;unfold QU
   have e:decide ((i:Int)<(v.1.length:Int))=false:=by rw [decide_eq_false_iff_not];omega
   rw [List.drop_of_length_le (by omega)]
   simp only [e,cond_false,List.all_nil,cond_true]
theorem stand_of_beg {r:Int}(h:begC r=true):staC r=true:=by unfold staC;rw [h];rfl
theorem Is_eq (s:Str)(hs:s.length<1099511627776):Z0 s=some (nameB s):=by
 unfold Z0 nameB
 rw [Chars_eq s hs]
 simp only [Option.bind_some]
 have hl:=runesL_len s.length s (Nat.le_refl _)
 cases hv:validD s with
 |false=>rfl
 |true=>
  simp only [cond_true,Bool.not_true,cond_false,Bool.true_and]
  have k:=Is_loop (runesL s,true) (by simp;omega) (runesL s).length 0 (by simp) (by omega)
  rw [List.drop_zero] at k
  cases hr:runesL s with
  |nil=>rfl
  |cons c l=>
   rw [hr] at k
   have e:((((c::l:List Int).length:Nat):Int)==0)=false:=by simp;omega
   have a0:at' (c::l) 0=some c:=rfl
   simp only [e,cond_false,a0,Option.bind_some,Begins_eq]
   cases hb:begC c with
   |false=>rfl
   |true=>
    simp only [Bool.not_true,cond_false,Bool.true_and]
    rw [show iter (QU (c::l,true)) 0=_ from k,List.all_cons,stand_of_beg hb,Bool.true_and]
    cases l.all staC<;>rfl
def splitN (s:Str):Str×Str×Bool:=bif (cut s [58]).2.2 then (bif nameB (cut s [58]).1&&nameB (cut s [58]).2.1 then ((cut s [58]).1,(cut s [58]).2.1,true) else ([],[],false)) else (bif nameB s then ([],s,true) else ([],[],false))
theorem cut_len (s t:Str):(cut s t).1.length≤s.length∧(cut s t).2.1.length≤s.length:=by
 unfold Go.Lib.cut
 split
 ·refine ⟨?_,?_⟩
  ·rw [List.length_take];exact Nat.min_le_right _ _
  ·rw [List.length_drop];exact Nat.sub_le _ _
 ·exact ⟨Nat.le_refl _,by simp⟩
theorem Split_eq (s:Str)(hs:s.length<4294967281):name_Split s=some (splitN s):=by
 unfold name_Split splitN
 rw [Cut_eq s [58] hs]
 simp only [Option.bind_some]
 obtain ⟨h1,h2⟩:=cut_len s [58]
 cases hc:(cut s [58]).2.2 with
 |false=>
  simp only [Bool.not_false,cond_true,cond_false]
  rw [Is_eq s (by omega)]
  simp only [Option.bind_some]
  cases nameB s<;>rfl
 |true=>
  simp only [Bool.not_true,cond_true,cond_false]
  rw [Is_eq _ (by omega),Is_eq _ (by omega)]
  simp only [Option.bind_some]
  cases nameB (cut s [58]).1<;>cases nameB (cut s [58]).2.1<;>rfl
theorem Trim1: ∀ (n:Nat) (s:Str),s.length≤n→s.length<4611686018427387904→iter name_Trim_b1 s=some (s.dropWhile isB):=by
 intro n
 induction n with
 |zero=>
  intro s h hB
  obtain rfl:=List.length_eq_zero_iff.1 (Nat.le_zero.1 h);exact zg rfl
 |succ n ih=>
  intro s h hB
  cases s with
  |nil=>exact zg rfl
  |cons c r=>
   have a0:at' (c::r) 0=some c:=rfl
   have s1:sub' (c::r) 1 (((c::r:Str).length:Nat):Int)=some r:=qP (k:=1) (by simp)
   have e:(!((c::r:Str)==[]))=true:=rfl
   simp only [List.length_cons] at h hB
   cases hc:isB c with
   |true=>
    rw [List.dropWhile_cons_of_pos hc,←ih r (by omega) (by omega)]
    refine zt ?_;unfold name_Trim_b1
    simp only [e,cond_true,a0,Option.bind_some,Blank_eq,hc,s1]
   |false=>
    rw [List.dropWhile_cons_of_neg (by simp [hc])]
    refine zg ?_;unfold name_Trim_b1
    simp only [e,cond_true,a0,Option.bind_some,Blank_eq,hc,cond_false]
theorem Trim2: ∀ (n:Nat) (s:Str),s.length≤n→s.length<4611686018427387904→ ∃ q t,iter name_Trim_b2 s=some q∧s=q++t∧(∀ b∈t,isB b=true)∧(∀ l b,q=l++[b]→isB b=false):=by
 intro n
 induction n with
 |zero=>
  intro s h hB
  obtain rfl:=List.length_eq_zero_iff.1 (Nat.le_zero.1 h);exact ⟨[],[],zg rfl,rfl,by simp,by simp⟩
 |succ n ih=>
  intro s h hB
  rcases List.eq_nil_or_concat s with rfl|⟨l,c,rfl⟩
  ·exact ⟨[],[],zg rfl,rfl,by simp,by simp⟩
  ·simp only [List.concat_eq_append,List.length_append,List.length_singleton] at h hB ⊢
   have hw:w64 (((l++[c]:Str).length:Int)-1)=((l.length:Nat):Int):=by rw [qv (by simp;omega)];simp
   have a0:at' (l++[c]) ((l.length:Nat):Int)=some c:=by rw [Q1];simp
   have s1:sub' (l++[c]) 0 ((l.length:Nat):Int)=some l:=by rw [QQ (by simp)];simp
   have e:(!((l++[c]:Str)==[]))=true:=by simp
   cases hc:isB c with
   |true=>
    obtain ⟨q,t,k1,k2,k3,k4⟩:=ih l (by omega) (by omega);refine ⟨q,t++[c],?_,by rw [k2,List.append_assoc],fun b hb=> ?_,k4⟩
    ·rw [←k1]
     refine zt ?_;unfold name_Trim_b2
     rw [hw]
     simp only [e,cond_true,a0,Option.bind_some,Blank_eq,hc,s1]
    ·rcases List.mem_append.1 hb with hb|hb
     ·exact k3 b hb
     ·obtain rfl:=List.mem_singleton.1 hb;exact hc
   |false=>
    refine ⟨l++[c],[],zg ?_,by simp,by simp,fun l' b hb=> ?_⟩
    ·unfold name_Trim_b2
     rw [hw]
     simp only [e,cond_true,a0,Option.bind_some,Blank_eq,hc,cond_false]
    ·have:=List.append_inj' hb rfl
     simp at this
     rw [←this.2];exact hc
theorem drop_all: ∀ s:Str,(∀ b∈s.dropWhile isB,isB b=true)→ ∀ b∈s,isB b=true
 |[],_,b,hb=>by cases hb
 |c::r,h,b,hb=>by
  cases hc:isB c with
  |false=>rw [List.dropWhile_cons_of_neg (by simp [hc])] at h;exact h b hb
  |true=>
   rw [List.dropWhile_cons_of_pos hc] at h
   rcases List.mem_cons.1 hb with rfl|hb
   ·exact hc
   ·exact drop_all r h b hb
theorem drop_nil: ∀ s:Str,(∀ b∈s,isB b=true)→s.dropWhile isB=[]
 |[],_=>rfl
 |c::r,h=>by
  rw [List.dropWhile_cons_of_pos (h c (by simp))]
  exact drop_nil r (fun b hb=>h b (by simp [hb]))
theorem Trim_eq (s:Str)(hB:s.length<4611686018427387904): ∃ q,name_Trim s=some q∧(q==[])=s.all isB:=by
 have hd:(s.dropWhile isB).length≤s.length:=(List.dropWhile_sublist isB).length_le
 obtain ⟨q,t,k1,k2,k3,k4⟩:=Trim2 (s.dropWhile isB).length (s.dropWhile isB) (Nat.le_refl _) (by omega);refine ⟨q,?_,?_⟩
 ·unfold name_Trim
  rw [Trim1 s.length s (Nat.le_refl _) hB]
  simp only [Option.bind_some]
  rw [k1];rfl
 ·rw [Bool.eq_iff_iff]
  simp only [beq_iff_eq,List.all_eq_true]
  constructor
  ·rintro rfl
   intro b hb
   rw [List.nil_append] at k2
   exact drop_all s (fun b hb=>k3 b (by rw [←k2];exact hb)) b hb
  ·intro h
   have:s.dropWhile isB=[]:=by
    exact drop_nil s h
   rw [this] at k2
   exact (List.append_eq_nil_iff.1 k2.symm).1
open Go.Lib (index cut contains)
def digC (base:Nat)(c:UInt8):Nat:=if 48≤c.toNat∧c.toNat≤57 then c.toNat-48 else if 97≤c.toNat∧c.toNat≤102 then c.toNat-97+10 else if 65≤c.toNat∧c.toNat≤70 then c.toNat-65+10 else base
def numL (base:Nat):Str→Nat→Option Nat
 |[],a=>some a
 |c::r,a=>if digC base c≥base then none else numL base r (min (a*base+digC base c) 1114112)
theorem mn_nat (a b:Nat):mn (a:Int) (b:Int)=((min a b:Nat):Int):=by
 unfold mn
 split<;>omega
theorem number_loop (s:Str)(base:Nat)(hb:base=10∨base=16)(hs:s.length<4611686018427387904): ∀ (n i a:Nat),s.length-i≤n→i≤s.length→a≤1114112→
 iter (qr s (base:Int)) ((a:Int),(i:Int))=some (match numL base (s.drop i) a with|none=> .inl ()|some v=> .inr (v:Int)):=by
 intro n
 induction n with
 |zero=>
  intro i a h1 h2 h3
  refine zg ?_;unfold qr
  have e:decide ((i:Int)<(s.length:Int))=false:=by rw [decide_eq_false_iff_not];omega
  rw [List.drop_of_length_le (by omega)]
  simp only [e,cond_false,numL]
 |succ n ih=>
  intro i a h1 h2 h3
  by_cases hi:i<s.length
  ·have e:decide ((i:Int)<(s.length:Int))=true:=by rw [decide_eq_true_eq];omega
   have hc:=s[i].toNat_lt
   have w1:w32 (s[i].toNat:Int)=(s[i].toNat:Int):=Zo _ (by omega)
   have fin: ∀ d:Nat,digC base s[i]=d→d≤255→(bif decide ((d:Int)≥(base:Int)) then (some (.inr (Sum.inl ())):Option ((Int×Int)⊕(Unit⊕Int))) else some (.inl ((mn (w32 ((w32 ((a:Int)*(base:Int)))+(d:Int))) 1114112),(w64 ((i:Int)+1)))))=qr s (base:Int) ((a:Int),(i:Int))→
    iter (qr s (base:Int)) ((a:Int),(i:Int))=some (match numL base (s.drop i) a with|none=> .inl ()|some v=> .inr (v:Int)):=fun d hd hd2 hstep=>by
    rw [List.drop_eq_getElem_cons hi]
    unfold numL
    rw [hd]
    by_cases hg:d≥base
    ·rw [show decide ((d:Int)≥(base:Int))=true by rw [decide_eq_true_eq];omega] at hstep
     rw [if_pos hg]
     exact zg hstep.symm
    ·rw [show decide ((d:Int)≥(base:Int))=false by rw [decide_eq_false_iff_not];omega] at hstep
     rw [if_neg hg,←ih (i+1) (min (a*base+d) 1114112) (by omega) (by omega) (by omega)]
     refine zt ?_
     rw [←hstep]
     have hm:a*base≤1114112*16:=Nat.mul_le_mul h3 (by omega)
     have e1:w32 ((a:Int)*(base:Int))=((a*base:Nat):Int):=by
      rw [show (a:Int)*(base:Int)=((a*base:Nat):Int) by push_cast;rfl]
      exact Zo _ (by omega)
     rw [e1,show ((a*base:Nat):Int)+(d:Int)=((a*base+d:Nat):Int) by push_cast;rfl,Zo _ (by omega),show (1114112:Int)=((1114112:Nat):Int) from rfl,mn_nat,qb (by omega)];rfl
   by_cases c1:48≤s[i].toNat
   ·by_cases c2:s[i].toNat≤57
    ·refine fin (s[i].toNat-48) (by unfold digC;rw [if_pos ⟨c1,c2⟩]) (by omega) ?_;unfold qr
     simp only [e,cond_true]
     rw [z7 hi]
     simp only [Option.bind_some,w1]
     rw [show decide ((s[i].toNat:Int)≥48)=true by rw [decide_eq_true_eq];omega,show decide ((s[i].toNat:Int)≤57)=true by rw [decide_eq_true_eq];omega]
     simp only [cond_true,Option.bind_some]
     rw [show w32 ((s[i].toNat:Int)-48)=((s[i].toNat-48:Nat):Int) by rw [w32_of (by omega)];omega]
    ·by_cases c3:97≤s[i].toNat∧s[i].toNat≤102
     ·refine fin (s[i].toNat-97+10) (by unfold digC;rw [if_neg (by omega),if_pos c3]) (by omega) ?_;unfold qr
      simp only [e,cond_true]
      rw [z7 hi]
      simp only [Option.bind_some,w1]
      rw [show decide ((s[i].toNat:Int)≥48)=true by rw [decide_eq_true_eq];omega,show decide ((s[i].toNat:Int)≤57)=false by rw [decide_eq_false_iff_not];omega]
      simp only [cond_true,cond_false,Option.bind_some]
      rw [show decide ((s[i].toNat:Int)≥97)=true by rw [decide_eq_true_eq];omega,show decide ((s[i].toNat:Int)≤102)=true by rw [decide_eq_true_eq];omega]
      simp only [cond_true,Option.bind_some]
      rw [show w32 ((w32 ((s[i].toNat:Int)-97))+10)=((s[i].toNat-97+10:Nat):Int) by rw [w32_of (n:=(s[i].toNat:Int)-97) (by omega),w32_of (by omega)];omega]
     ·have hq:((bif (decide ((s[i].toNat:Int)≥97)) then some (decide ((s[i].toNat:Int)≤102)) else some false):Option Bool)=some false:=by
       by_cases c4:97≤s[i].toNat
       ·rw [show decide ((s[i].toNat:Int)≥97)=true by rw [decide_eq_true_eq];omega,show decide ((s[i].toNat:Int)≤102)=false by rw [decide_eq_false_iff_not];omega];rfl
       ·rw [show decide ((s[i].toNat:Int)≥97)=false by rw [decide_eq_false_iff_not];omega];rfl
      by_cases c5:65≤s[i].toNat∧s[i].toNat≤70
      ·refine fin (s[i].toNat-65+10) (by unfold digC;rw [if_neg (by omega),if_neg c3,if_pos c5]) (by omega) ?_;unfold qr
       simp only [e,cond_true]
       rw [z7 hi]
       simp only [Option.bind_some,w1]
       rw [show decide ((s[i].toNat:Int)≥48)=true by rw [decide_eq_true_eq];omega,show decide ((s[i].toNat:Int)≤57)=false by rw [decide_eq_false_iff_not];omega]
       simp only [cond_true,cond_false,Option.bind_some]
       rw [hq]
       simp only [cond_false,Option.bind_some]
       rw [show decide ((s[i].toNat:Int)≥65)=true by rw [decide_eq_true_eq];omega,show decide ((s[i].toNat:Int)≤70)=true by rw [decide_eq_true_eq];omega]
       simp only [cond_true]
       rw [show w32 ((w32 ((s[i].toNat:Int)-65))+10)=((s[i].toNat-65+10:Nat):Int) by rw [w32_of (n:=(s[i].toNat:Int)-65) (by omega),w32_of (by omega)];omega]
      ·refine fin base (by unfold digC;rw [if_neg (by omega),if_neg c3,if_neg c5]) (by omega) ?_;unfold qr
       simp only [e,cond_true]
       rw [z7 hi]
       simp only [Option.bind_some,w1]
       rw [show decide ((s[i].toNat:Int)≥48)=true by rw [decide_eq_true_eq];omega,show decide ((s[i].toNat:Int)≤57)=false by rw [decide_eq_false_iff_not];omega]
       simp only [cond_true,cond_false,Option.bind_some]
       rw [hq]
       simp only [cond_false,Option.bind_some]
       by_cases c6:65≤s[i].toNat
       ·rw [show decide ((s[i].toNat:Int)≥65)=true by rw [decide_eq_true_eq];omega,show decide ((s[i].toNat:Int)≤70)=false by rw [decide_eq_false_iff_not];omega];rfl
       ·rw [show decide ((s[i].toNat:Int)≥65)=false by rw [decide_eq_false_iff_not];omega];rfl
   ·refine fin base (by unfold digC;rw [if_neg (by omega),if_neg (by omega),if_neg (by omega)]) (by omega) ?_;unfold qr
    simp only [e,cond_true]
    rw [z7 hi]
    simp only [Option.bind_some,w1]
    rw [show decide ((s[i].toNat:Int)≥48)=false by rw [decide_eq_false_iff_not];omega]
    simp only [cond_false,Option.bind_some]
    rw [show decide ((s[i].toNat:Int)≥97)=false by rw [decide_eq_false_iff_not];omega]
    simp only [cond_false,Option.bind_some]
    rw [show decide ((s[i].toNat:Int)≥65)=false by rw [decide_eq_false_iff_not];omega];rfl
  ·refine zg ?_;unfold qr
   have e:decide ((i:Int)<(s.length:Int))=false:=by rw [decide_eq_false_iff_not];omega
   rw [List.drop_of_length_le (by omega)]
   simp only [e,cond_false,numL]
theorem number_eq (s:Str)(base:Nat)(hb:base=10∨base=16)(hs:s.length<4611686018427387904):Jw s (base:Int)=some (match numL base s 0 with|none=>(0,false)|some v=>((v:Int),!(s==[]))):=by
 unfold Jw
 have:=number_loop s base hb hs s.length 0 0 (by omega) (by omega) (by omega)
 rw [List.drop_zero] at this
 rw [show iter (qr s (base:Int)) (0,0)=_ from this]
 cases numL base s 0<;>rfl
def orOk (x:Nat):Bool:=(u8 (bor 8 128 (x:Int))==UInt8.ofNat (128+x))&&((decide (32≤x)||u8 (bor 8 192 (x:Int))==UInt8.ofNat (192+x))&&((decide (16≤x)||u8 (bor 8 224 (x:Int))==UInt8.ofNat (224+x))&&(decide (8≤x)||u8 (bor 8 240 (x:Int))==UInt8.ofNat (240+x))))
theorem or_all:(List.range 64).all orOk=true:=by kernel_rfl
theorem or8 (x:Nat)(h:x<64):u8 (bor 8 128 (x:Int))=UInt8.ofNat (128+x)∧(x<32→u8 (bor 8 192 (x:Int))=UInt8.ofNat (192+x))∧(x<16→u8 (bor 8 224 (x:Int))=UInt8.ofNat (224+x))∧(x<8→u8 (bor 8 240 (x:Int))=UInt8.ofNat (240+x)):=by
 have k:=List.all_eq_true.1 or_all x (List.mem_range.2 h)
 simp only [orOk,Bool.and_eq_true,Bool.or_eq_true,decide_eq_true_eq,beq_iff_eq] at k
 exact ⟨k.1,fun h=>k.2.1.resolve_left (by omega),fun h=>k.2.2.1.resolve_left (by omega),fun h=>k.2.2.2.resolve_left (by omega)⟩
theorem u8_nat (n:Nat):(u8 (n:Int)).toNat=n % 256:=by
 unfold u8
 rw [show ((n:Int) % 256).toNat=n % 256 by omega]
 simp
theorem fd (n k:Nat):((n:Int)).fdiv (2^k)=((n / 2^k:Nat):Int):=by
 rw [Int.fdiv_eq_ediv_of_nonneg _ (Int.le_of_lt (Int.pow_pos (by decide)))];push_cast;rfl
theorem v32_nat (n:Nat)(h:n<4294967296):v32 (n:Int)=(n:Int):=by
 have e1:(2^32:Int)=4294967296:=by decide
 unfold v32 wr
 simp only [Bool.false_and,e1]
 rw [if_neg (by simp)];omega
theorem tb (m:Nat):u8 (bor 8 128 ((u8 (band 8 ((u8 (m:Int)).toNat:Int) 63)).toNat:Int))=UInt8.ofNat (128+m % 64):=by
 have h:=(bits (u8 (m:Int))).1
 rw [h,u8_nat,show m % 256 % 64=m % 64 by omega]
 exact (or8 (m % 64) (by omega)).1
theorem hb2 (m:Nat)(h:m<32):u8 (bor 8 192 ((u8 (m:Int)).toNat:Int))=UInt8.ofNat (192+m):=by
 rw [u8_nat,show m % 256=m by omega];exact (or8 m (by omega)).2.1 h
theorem hb3 (m:Nat)(h:m<16):u8 (bor 8 224 ((u8 (m:Int)).toNat:Int))=UInt8.ofNat (224+m):=by
 rw [u8_nat,show m % 256=m by omega];exact (or8 m (by omega)).2.2.1 h
theorem hb4 (m:Nat)(h:m<8):u8 (bor 8 240 ((u8 (m:Int)).toNat:Int))=UInt8.ofNat (240+m):=by
 rw [u8_nat,show m % 256=m by omega];exact (or8 m (by omega)).2.2.2 h
def okR (n:Nat):Prop:=n<55296∨(57344≤n∧n≤1114111)
theorem valid_ok {n:Nat}(h:okR n):W.validRune n=true:=by
 unfold okR at h;unfold W.validRune
 simp only [Bool.or_eq_true,decide_eq_true_eq,Bool.and_eq_true];omega
theorem enc_nat {n:Nat}(h:okR n):enc (n:Int)=if n<0x80 then [UInt8.ofNat n] else if n<0x800 then [UInt8.ofNat (0xC0+n / 64),UInt8.ofNat (0x80+n % 64)] else if n<0x10000 then [UInt8.ofNat (0xE0+n / 4096),UInt8.ofNat (0x80+n / 64 % 64),UInt8.ofNat (0x80+n % 64)] else [UInt8.ofNat (0xF0+n / 262144),UInt8.ofNat (0x80+n / 4096 % 64),UInt8.ofNat (0x80+n / 64 % 64),UInt8.ofNat (0x80+n % 64)]:=by
 unfold enc
 have e:(if 0≤(n:Int)∧W.validRune (n:Int).toNat=true then (n:Int).toNat else 0xFFFD)=n:=by
  rw [if_pos ⟨Int.natCast_nonneg _,by simpa using valid_ok h⟩];rfl
 simp only [e]
theorem enc_len {n:Nat}(h:okR n):(enc (n:Int)).length≤4∧1≤(enc (n:Int)).length:=by
 rw [enc_nat h]
 split
 ·simp
 ·split
  ·simp
  ·split<;>simp
theorem AppendRune_eq (p:Str)(n:Nat)(h:okR n)(hp:p.length≤140737488355320):JE p (n:Int)=some (p++enc (n:Int)):=by
 have hn:n≤1114111:=by unfold okR at h;omega
 rw [enc_nat h]
 unfold okR at h;unfold JE
 rw [v32_nat n (by omega)]
 by_cases h1:n<128
 ·rw [show decide ((n:Int)≤127)=true by rw [decide_eq_true_eq];omega,if_pos h1]
  simp only [cond_true]
  have:u8 (n:Int)=UInt8.ofNat n:=by
   unfold u8
   rw [show ((n:Int) % 256).toNat=n by omega]
  rw [Z3 (by simp;omega),this];rfl
 ·rw [show decide ((n:Int)≤127)=false by rw [decide_eq_false_iff_not];omega,if_neg h1]
  simp only [cond_false]
  unfold Z6
  rw [v32_nat n (by omega)]
  simp only [fd]
  by_cases h2:n<2048
  ·rw [show decide ((n:Int)≤2047)=true by rw [decide_eq_true_eq];omega,if_pos h2]
   simp only [cond_true]
   rw [tb,hb2 _ (by omega),Z3 (by simp;omega)];rfl
  ·rw [show decide ((n:Int)≤2047)=false by rw [decide_eq_false_iff_not];omega,if_neg h2]
   simp only [cond_false]
   by_cases h3:n<55296
   ·rw [show decide ((n:Int)<55296)=true by rw [decide_eq_true_eq];omega,if_pos (by omega)]
    simp only [cond_true]
    rw [tb,tb,hb3 _ (by omega),Z3 (by simp;omega)];rfl
   ·rw [show decide ((n:Int)<55296)=false by rw [decide_eq_false_iff_not];omega,show decide (57343<(n:Int))=true by rw [decide_eq_true_eq];omega]
    simp only [cond_false,cond_true]
    by_cases h4:n<65536
    ·rw [show decide ((n:Int)≤65535)=true by rw [decide_eq_true_eq];omega,if_pos (by omega)]
     simp only [cond_true]
     rw [tb,tb,hb3 _ (by omega),Z3 (by simp;omega)];rfl
    ·rw [show decide ((n:Int)≤65535)=false by rw [decide_eq_false_iff_not];omega,if_neg (by omega),show decide ((n:Int)>65535)=true by rw [decide_eq_true_eq];omega,show decide ((n:Int)≤1114111)=true by rw [decide_eq_true_eq];omega]
     simp only [cond_false,cond_true,Option.bind_some]
     rw [tb,tb,tb,hb4 _ (by omega),Z3 (by simp;omega)];rfl
theorem ok_of_xml {n:Nat}(h:xmlc (n:Int)=true):okR n:=by
 unfold xmlc at h
 rw [decide_eq_true_eq] at h
 unfold okR;omega
theorem Bytes_one (n:Nat)(h:xmlc (n:Int)=true):utf_Bytes [(n:Int)]=some (enc (n:Int),true):=by
 have ho:=ok_of_xml h
 unfold utf_Bytes
 have hv:JY (n:Int)=some true:=by
  unfold JY;unfold okR at ho
  rw [show decide (0≤(n:Int))=true by simp]
  simp only [cond_true]
  by_cases h1:n<55296
  ·rw [show decide ((n:Int)<55296)=true by rw [decide_eq_true_eq];omega];rfl
  ·rw [show decide ((n:Int)<55296)=false by rw [decide_eq_false_iff_not];omega,show decide (57343<(n:Int))=true by rw [decide_eq_true_eq];omega,show decide ((n:Int)≤1114111)=true by rw [decide_eq_true_eq];omega];rfl
 have s1:utf_Bytes_b1 [(n:Int)] (0,[])=some (.inl (1,enc (n:Int))):=by
  unfold utf_Bytes_b1
  have a0:at' [(n:Int)] 0=some (n:Int):=rfl
  have e:decide ((0:Int)<((([(n:Int)]:List Int).length:Nat):Int))=true:=rfl
  simp only [e,cond_true,a0,Option.bind_some,hv,Bool.not_true,cond_false]
  rw [AppendRune_eq [] n ho (by simp)]
  simp only [Option.bind_some,List.nil_append]
  rw [show w64 (0+1)=1 from qv (by omega)]
 have s2:utf_Bytes_b1 [(n:Int)] (1,enc (n:Int))=some (.inr (.inr (enc (n:Int)))):=rfl
 rw [zt s1,zg s2];rfl
def namedL (s:Str):Option Str:=if s=[108,116] then some [60] else if s=[103,116] then some [62] else if s=[97,109,112] then some [38] else if s=[97,112,111,115] then some [39] else if s=[113,117,111,116] then some [34] else none
def charL (base:Nat)(d:Str):Option Str:=match numL base d 0 with
 |none=>none
 |some v=>if d≠[]∧xmlc (v:Int)=true then some (enc (v:Int)) else none
def standsL (s:Str):Option Str:=bif (cutP [35] s).2 then (bif (cutP [120] (cutP [35] s).1).2 then charL 16 (cutP [120] (cutP [35] s).1).1 else charL 10 (cutP [35] s).1) else namedL s
def ansL:Option Str→Str×Bool
 |none=>([],false)
 |some x=>(x,true)
theorem named_eq (s:Str):chars_named s=some (ansL (namedL s)):=by
 unfold chars_named namedL
 by_cases h1:s=[108,116]
 ·subst h1;rfl
 by_cases h2:s=[103,116]
 ·subst h2;rfl
 by_cases h3:s=[97,109,112]
 ·subst h3;rfl
 by_cases h4:s=[97,112,111,115]
 ·subst h4;rfl
 by_cases h5:s=[113,117,111,116]
 ·subst h5;rfl
 rw [if_neg h1,if_neg h2,if_neg h3,if_neg h4,if_neg h5]
 simp only [beq_eq_false_iff_ne.2 h1,beq_eq_false_iff_ne.2 h2,beq_eq_false_iff_ne.2 h3,beq_eq_false_iff_ne.2 h4,beq_eq_false_iff_ne.2 h5,cond_false];rfl
theorem char_eq (base:Nat)(hb:base=10∨base=16)(d:Str)(hd:d.length<4611686018427387904):((Jw d (base:Int)).bind fun v4=>(bif (!v4.2) then some ([],false) else (utf_Xml v4.1).bind fun v5=>(bif (!v5) then some ([],false) else (utf_Bytes [v4.1]).bind fun v6=>some (v6.1,v6.2))))=some (ansL (charL base d)):=by
 rw [number_eq d base hb hd]
 unfold charL
 cases hn:numL base d 0 with
 |none=>rfl
 |some v=>
  simp only [Option.bind_some,Bool.not_not]
  by_cases h0:d=[]
  ·subst h0;rfl
  ·rw [beq_eq_false_iff_ne.2 h0]
   simp only [cond_false,Xml_eq,Option.bind_some]
   cases hx:xmlc (v:Int) with
   |false=>rw [if_neg (by simp)];rfl
   |true=>
    rw [if_pos ⟨h0,rfl⟩,Bytes_one v hx];rfl
theorem JC (p s:Str):(cutP p s).1.length≤s.length:=by
 unfold cutP
 cases p.isPrefixOf s
 ·exact Nat.le_refl _
 ·show (s.drop p.length).length≤_
  rw [List.length_drop];omega
theorem stands_eq (s:Str)(hs:s.length<4611686018427387904):QP s=some (ansL (standsL s)):=by
 unfold QP standsL
 rw [CutPrefix_eq]
 simp only [Option.bind_some]
 have h1:=JC [35] s
 cases h:(cutP [35] s).2 with
 |false=>
  simp only [Bool.not_false,cond_true,cond_false,named_eq,Option.bind_some]
 |true=>
  simp only [Bool.not_true,cond_true,cond_false]
  rw [CutPrefix_eq]
  simp only [Option.bind_some]
  have h2:=JC [120] (cutP [35] s).1
  cases h':(cutP [120] (cutP [35] s).1).2 with
  |false=>
   simp only [cond_false]
   exact char_eq 10 (Or.inl rfl) _ (by omega)
  |true=>
   simp only [cond_true]
   exact char_eq 16 (Or.inr rfl) _ (by omega)
theorem namedL_len {s x:Str}(h:namedL s=some x):x.length≤s.length+2:=by
 unfold namedL at h
 repeat' split at h
 all_goals first|(cases h;simp;done)|cases h
theorem charL_len {base:Nat}{d x:Str}(h:charL base d=some x):x.length≤4∧1≤d.length:=by
 unfold charL at h
 split at h
 ·cases h
 ·split at h
  ·rename_i hc
   cases h
   exact ⟨(enc_len (ok_of_xml hc.2)).1,List.length_pos_iff.2 hc.1⟩
  ·cases h
theorem Je {p s:Str}(h:(cutP p s).2=true):s=p++(cutP p s).1:=by
 unfold cutP at h ⊢
 cases hp:p.isPrefixOf s with
 |false=>rw [hp] at h;cases h
 |true=>
  simp only [cond_true]
  rw [List.isPrefixOf_iff_prefix] at hp
  obtain ⟨t,rfl⟩:=hp
  simp
theorem Jq {p s:Str}(h:(cutP p s).2=false):(cutP p s).1=s:=by
 unfold cutP at h ⊢
 cases hp:p.isPrefixOf s with
 |false=>rfl
 |true=>rw [hp] at h;cases h
theorem standsL_len {s x:Str}(h:standsL s=some x):x.length≤s.length+2:=by
 unfold standsL at h
 cases h1:(cutP [35] s).2 with
 |false=>rw [h1] at h;exact namedL_len h
 |true=>
  rw [h1] at h
  simp only [cond_true] at h
  have e1:=congrArg List.length (Je h1)
  rw [List.length_append,List.length_singleton] at e1
  cases h2:(cutP [120] (cutP [35] s).1).2 with
  |false=>
   rw [h2] at h
   have:=charL_len h
   omega
  |true=>
   rw [h2] at h
   have:=charL_len h
   have e2:=congrArg List.length (Je h2)
   rw [List.length_append,List.length_singleton] at e2
   omega
theorem at_mid' {α:Type}{L:List α}(p:List α)(c:α)(r:List α){i:Nat}(hL:L=p++c::r)(h:i=p.length):at' L (i:Int)=some c:=by
 subst h hL;rw [Q1];simp
theorem put_mid' {α:Type}{L:List α}(p:List α)(c:α)(r:List α){i:Nat}(d:α)(hL:L=p++c::r)(h:i=p.length):put L (i:Int) d=some (p++d::r):=by
 subst h hL;rw [put_of (by simp)];simp
def rb (b:UInt8):UInt8:=if b.toNat=9∨b.toNat=10∨b.toNat=13 then 32 else b
def pairsB:List Str:=[[9],[32],[10],[32],[13],[32]]
def tblB:Str:=(List.range 256).map fun n=>rb (UInt8.ofNat n)
theorem tbl_b2:iter Qc (0,List.replicate 256 0)=some ((List.range 256).map fun n=>UInt8.ofNat n):=iter_of (n:=300) (by kernel_rfl)
theorem tbl_b3:iter (Qe pairsB) (4,(List.range 256).map fun n=>UInt8.ofNat n)=some tblB:=iter_of (n:=10) (by kernel_rfl)
theorem build_eq:qZ pairsB=some tblB:=by
 unfold qZ
 have e:((pairsB.length:Int)==2)=false:=rfl
 rw [e]
 simp only [cond_false,Option.bind_some]
 have h1:iter (Qb pairsB) (true,0)=some true:=iter_of (n:=10) (by kernel_rfl)
 rw [h1]
 simp only [Option.bind_some,cond_true]
 rw [tbl_b2]
 simp only [Option.bind_some]
 rw [show w64 ((pairsB.length:Int)-2)=4 from qv (by decide),tbl_b3];rfl
theorem tbl_at (b:UInt8):atA 256 tblB (b.toNat:Int)=some (rb b):=by
 have hb:=b.toNat_lt
 unfold atA
 rw [if_pos (by omega),Int.toNat_natCast]
 unfold tblB
 rw [List.getElem?_map,List.getElem?_range hb]
 simp
theorem rep_loop2 (u:Str)(hu:u.length<4611686018427387904): ∀ (n i:Nat) (buf:Str),u.length-i≤n→i≤u.length→buf=(u.take i).map rb++u.drop i→buf≠[]→iter (zo u tblB) (Sum.inr ((i:Int),buf))=some (Sum.inr (u.map rb)):=by
 intro n
 induction n with
 |zero=>
  intro i buf h1 h2 h3 h4
  refine zg ?_;unfold zo
  simp only [Sum.elim_inr]
  have e:decide ((i:Int)<(u.length:Int))=false:=by rw [decide_eq_false_iff_not];omega
  rw [List.drop_of_length_le (by omega),List.take_of_length_le (by omega),List.append_nil] at h3
  simp only [e,cond_false,h3]
 |succ n ih=>
  intro i buf h1 h2 h3 h4
  by_cases hi:i<u.length
  ·have e:decide ((i:Int)<(u.length:Int))=true:=by rw [decide_eq_true_eq];omega
   have hl:buf.length=u.length:=by rw [h3];simp;omega
   by_cases hr:rb u[i]=u[i]
   ·have k:=ih (i+1) buf (by omega) (by omega) (by
     rw [h3,List.take_succ_eq_append_getElem hi,List.map_append,List.append_assoc,List.drop_eq_getElem_cons hi]
     simp [hr]) h4
    rw [←k]
    refine zt ?_;unfold zo
    simp only [Sum.elim_inr,e,cond_true]
    rw [z7 hi]
    simp only [Option.bind_some,tbl_at,hr]
    rw [show ((u[i].toNat:Int) != (u[i].toNat:Int))=false by simp]
    simp only [cond_false]
    rw [qb (by omega)]
   ·have hb:buf=(u.take i).map rb++u[i]::u.drop (i+1):=by rw [h3,List.drop_eq_getElem_cons hi]
    have hti:((u.take i).map rb).length=i:=by simp;omega
    have a1:at' buf (i:Int)=some u[i]:=at_mid' _ _ _ hb hti.symm
    have p1:put buf (i:Int) (rb u[i])=some ((u.take i).map rb++rb u[i]::u.drop (i+1)):=put_mid' _ _ _ _ hb hti.symm
    have k:=ih (i+1) ((u.take i).map rb++rb u[i]::u.drop (i+1)) (by omega) (by omega) (by
     rw [List.take_succ_eq_append_getElem hi,List.map_append,List.append_assoc];rfl) (by simp)
    rw [←k]
    refine zt ?_;unfold zo
    simp only [Sum.elim_inr,e,cond_true]
    rw [z7 hi]
    simp only [Option.bind_some,tbl_at]
    have hne:((rb u[i]).toNat:Int)≠(u[i].toNat:Int):=by
     intro h
     exact hr (UInt8.toNat_inj.1 (by omega))
    rw [show (((rb u[i]).toNat:Int) != (u[i].toNat:Int))=true by simpa using hne]
    simp only [cond_true]
    have n0:ne0 buf=some ():=by unfold ne0;rw [if_pos (List.length_pos_iff.2 h4)]
    rw [n0]
    simp only [Option.bind_some,a1,p1]
    rw [qb (by omega)]
  ·refine zg ?_;unfold zo
   simp only [Sum.elim_inr]
   have e:decide ((i:Int)<(u.length:Int))=false:=by rw [decide_eq_false_iff_not];omega
   rw [List.drop_of_length_le (by omega),List.take_of_length_le (by omega),List.append_nil] at h3
   simp only [e,cond_false,h3]
theorem rep_loop1 (u:Str)(hu:u.length<4611686018427387904): ∀ (n i:Nat),u.length-i≤n→i≤u.length→(u.take i).map rb=u.take i→(iter (zo u tblB) (Sum.inl (i:Int))=some (Sum.inl ())∧u.map rb=u)∨(iter (zo u tblB) (Sum.inl (i:Int))=some (Sum.inr (u.map rb))∧u≠[]):=by
 intro n
 induction n with
 |zero=>
  intro i h1 h2 h3
  left
  rw [List.take_of_length_le (by omega)] at h3
  refine ⟨zg ?_,h3⟩;unfold zo
  simp only [Sum.elim_inl]
  have e:decide ((i:Int)<(u.length:Int))=false:=by rw [decide_eq_false_iff_not];omega
  simp only [e,cond_false]
 |succ n ih=>
  intro i h1 h2 h3
  by_cases hi:i<u.length
  ·have e:decide ((i:Int)<(u.length:Int))=true:=by rw [decide_eq_true_eq];omega
   by_cases hr:rb u[i]=u[i]
   ·have st:zo u tblB (Sum.inl (i:Int))=some (.inl (Sum.inl ((i+1:Nat):Int))):=by
     unfold zo
     simp only [Sum.elim_inl,e,cond_true]
     rw [z7 hi]
     simp only [Option.bind_some,tbl_at,hr]
     rw [show ((u[i].toNat:Int) != (u[i].toNat:Int))=false by simp]
     simp only [cond_false]
     rw [qb (by omega)]
    rw [zt st]
    exact ih (i+1) (by omega) (by omega) (by rw [List.take_succ_eq_append_getElem hi,List.map_append,h3];simp [hr])
   ·right
    have hb:u=u.take i++u[i]::u.drop (i+1):=by rw [←List.drop_eq_getElem_cons hi,List.take_append_drop]
    have hti:(u.take i).length=i:=by simp;omega
    have p1:put u (i:Int) (rb u[i])=some (u.take i++rb u[i]::u.drop (i+1)):=put_mid' _ _ _ _ hb hti.symm
    have hne:((rb u[i]).toNat:Int)≠(u[i].toNat:Int):=by
     intro h
     exact hr (UInt8.toNat_inj.1 (by omega))
    have st:zo u tblB (Sum.inl (i:Int))=some (.inl (Sum.inr (((i+1:Nat):Int),u.take i++rb u[i]::u.drop (i+1)))):=by
     unfold zo
     simp only [Sum.elim_inl,e,cond_true]
     rw [z7 hi]
     simp only [Option.bind_some,tbl_at]
     rw [show (((rb u[i]).toNat:Int) != (u[i].toNat:Int))=true by simpa using hne]
     simp only [cond_true,p1,Option.bind_some]
     rw [qb (by omega)]
    refine ⟨?_,by intro h;rw [h] at hi;simp at hi⟩
    rw [zt st]
    exact rep_loop2 u hu (u.length-(i+1)) (i+1) _ (Nat.le_refl _) (by omega) (by rw [List.take_succ_eq_append_getElem hi,List.map_append,h3,List.append_assoc];rfl) (by simp)
  ·left
   rw [List.take_of_length_le (by omega)] at h3
   refine ⟨zg ?_,h3⟩;unfold zo
   simp only [Sum.elim_inl]
   have e:decide ((i:Int)<(u.length:Int))=false:=by rw [decide_eq_false_iff_not];omega
   simp only [e,cond_false]
theorem byteRep_eq (u:Str)(hu:u.length<4611686018427387904):qj u tblB=some (u.map rb):=by
 unfold qj
 rcases rep_loop1 u hu u.length 0 (by omega) (by omega) rfl with ⟨h,k⟩|⟨h,k⟩
 ·rw [show iter (zo u tblB) (Sum.inl 0)=_ from h]
  simp only [Option.bind_some,Sum.elim_inl,k]
 ·rw [show iter (zo u tblB) (Sum.inl 0)=_ from h]
  simp only [Option.bind_some,Sum.elim_inr]
  have n0:ne0 (u.map rb)=some ():=by unfold ne0;rw [if_pos (by simp;exact List.length_pos_iff.2 k)]
  rw [n0];rfl
theorem Rep1_eq (u:Str)(hu:u.length<4611686018427387904):qN u pairsB=some (u.map rb,tblB):=by
 unfold qN
 have h:JD pairsB=some tblB:=by
  unfold JD Q4 Q5 QR Jx Q2 Ze
  rw [build_eq];rfl
 rw [h]
 simp only [Option.bind_some,byteRep_eq u hu]
theorem Rep2_eq (u:Str)(hu:u.length<4611686018427387904):qy u tblB=some (u.map rb):=by
 unfold qy zaj Q3
 simp only [Option.bind_some,byteRep_eq u hu]
def expL (pl:Str→Str):Nat→Str→Option Str
 |0,_=>none
 |n+1,s=>bif (cut s [38]).2.2 then (bif (cut (cut s [38]).2.1 [59]).2.2 then (match standsL (cut (cut s [38]).2.1 [59]).1 with
  |none=>none
  |some x=>(expL pl n (cut (cut s [38]).2.1 [59]).2.1).map fun r=>pl (cut s [38]).1++(x++r)) else none) else some (pl (cut s [38]).1)
theorem cut_true {s t:Str}(h:(cut s t).2.2=true):s=(cut s t).1++(t++(cut s t).2.1):=by
 unfold Go.Lib.cut at h ⊢
 by_cases h0:0≤index s t
 ·rw [if_pos h0] at h ⊢
  rcases Go.Lib.index_spec s t with ⟨h1,_⟩|⟨i,h1,h2,h3,_⟩
  ·omega
  ·rw [h1]
   simp only [Int.toNat_natCast]
   have h4:t.isPrefixOf (s.drop i)=true:=h3
   rw [List.isPrefixOf_iff_prefix] at h4
   obtain ⟨r,hr⟩:=h4
   rw [←List.drop_drop,←hr]
   simp only [List.drop_left]
   rw [hr,List.take_append_drop]
 ·rw [if_neg h0] at h;cases h
theorem cut_false {s t:Str}(h:(cut s t).2.2=false):(cut s t).1=s:=by
 unfold Go.Lib.cut at h ⊢
 by_cases h0:0≤index s t
 ·rw [if_pos h0] at h;cases h
 ·rw [if_neg h0]
theorem expL_len (pl:Str→Str)(hp: ∀ s,(pl s).length≤s.length): ∀ (n:Nat) (s r:Str),expL pl n s=some r→r.length≤s.length:=by
 intro n
 induction n with
 |zero=>intro s r h;cases h
 |succ n ih=>
  intro s r h
  unfold expL at h
  cases h1:(cut s [38]).2.2 with
  |false=>
   rw [h1] at h
   cases h
   have:=hp (cut s [38]).1
   rw [cut_false h1] at this ⊢
   exact this
  |true=>
   rw [h1] at h
   simp only [cond_true] at h
   have e1:=congrArg List.length (cut_true h1)
   cases h2:(cut (cut s [38]).2.1 [59]).2.2 with
   |false=>rw [h2] at h;cases h
   |true=>
    rw [h2] at h
    simp only [cond_true] at h
    have e2:=congrArg List.length (cut_true h2)
    simp only [List.length_append,List.length_singleton] at e1 e2
    cases h3:standsL (cut (cut s [38]).2.1 [59]).1 with
    |none=>rw [h3] at h;cases h
    |some x=>
     rw [h3] at h
     have e3:=standsL_len h3
     cases h4:expL pl n (cut (cut s [38]).2.1 [59]).2.1 with
     |none=>rw [h4] at h;cases h
     |some q=>
      rw [h4] at h
      cases h
      have e4:=ih _ _ h4
      have e5:=hp (cut s [38]).1
      simp only [List.length_append];omega
theorem string_eq (b:Bool)(x:Str)(h:x.length≤9223372036854775807):zB b x=some x:=by
 unfold zB unsf
 rw [if_pos h];rfl
theorem exp_loop (s0:Str)(plain:Str→Option Str)(pl:Str→Str)(hp: ∀ x:Str,x.length<1073741824→plain x=some (pl x))(hl: ∀ x,(pl x).length≤x.length): ∀ (n:Nat) (s buf:Str),s.length<n→buf.length+s.length<1073741824→
 iter (qI s0 plain) (Sum.inr (s,buf))=some (match expL pl n s with|none=>([],false)|some r=>(buf++r,true)):=by
 intro n
 induction n with
 |zero=>intro s buf h;omega
 |succ n ih=>
  intro s buf hn hB
  obtain ⟨k1,k2⟩:=cut_len s [38];obtain ⟨k3,k4⟩:=cut_len (cut s [38]).2.1 [59]
  have k5:=hl (cut s [38]).1
  have e1:qw s [38]=some (cut s [38]):=Cut_eq s [38] (by omega)
  have e2:qw (cut s [38]).2.1 [59]=some (cut (cut s [38]).2.1 [59]):=Cut_eq _ [59] (by omega)
  have e3:plain (cut s [38]).1=some (pl (cut s [38]).1):=hp _ (by omega)
  have e4:zf (pl (cut s [38]).1) false buf=some (((pl (cut s [38]).1).length:Int),buf++pl (cut s [38]).1):=write_eq _ _ _ (by omega)
  have e5:=stands_eq (cut (cut s [38]).2.1 [59]).1 (by omega)
  unfold expL
  cases h1:(cut s [38]).2.2 with
  |false=>
   refine zg ?_;unfold qI
   simp only [Sum.elim_inr,e1,Option.bind_some,e3,e4,h1,Bool.not_false,cond_true,cond_false]
   rw [string_eq _ _ (by simp;omega)];rfl
  |true=>
   have l1:=congrArg List.length (cut_true h1)
   simp only [List.length_append,List.length_singleton] at l1
   cases h2:(cut (cut s [38]).2.1 [59]).2.2 with
   |false=>
    refine zg ?_;unfold qI
    simp only [Sum.elim_inr,e1,Option.bind_some,e3,e4,h1,Bool.not_true,cond_true,cond_false,e2,e5,h2,Bool.not_false]
   |true=>
    have l2:=congrArg List.length (cut_true h2)
    simp only [List.length_append,List.length_singleton] at l2
    cases h3:standsL (cut (cut s [38]).2.1 [59]).1 with
    |none=>
     refine zg ?_;unfold qI
     simp only [Sum.elim_inr,e1,Option.bind_some,e3,e4,h1,Bool.not_true,cond_true,cond_false,e2,e5,h2,h3,ansL,Bool.not_false]
    |some x=>
     have l3:=standsL_len h3
     have e6:zf x false (buf++pl (cut s [38]).1)=some ((x.length:Int),buf++pl (cut s [38]).1++x):=write_eq _ _ _ (by simp;omega)
     have k:=ih (cut (cut s [38]).2.1 [59]).2.1 (buf++pl (cut s [38]).1++x) (by omega) (by simp;omega)
     have st:qI s0 plain (Sum.inr (s,buf))=some (.inl (Sum.inr ((cut (cut s [38]).2.1 [59]).2.1,buf++pl (cut s [38]).1++x))):=by
      unfold qI
      simp only [Sum.elim_inr,e1,Option.bind_some,e3,e4,h1,Bool.not_true,cond_true,cond_false,e2,e5,h2,h3,ansL,e6]
     rw [zt st,k]
     simp only [cond_true]
     cases expL pl n (cut (cut s [38]).2.1 [59]).2.1 with
     |none=>rfl
     |some r=>simp
theorem exp_first (s:Str)(plain:Str→Option Str):qI s plain (Sum.inl ())=qI s plain (Sum.inr (s,[])):=by
 unfold qI
 simp only [Sum.elim_inl,Sum.elim_inr]
 rfl
def expandL (pl:Str→Str)(s:Str):Option Str:=if textB s=true∧contains s [60]=false then expL pl (s.length+1) s else none
def ansE:Option Str→Str×Bool
 |none=>([],false)
 |some x=>(x,true)
theorem iter_same {σ ρ:Type}{f:σ→Option (σ⊕ρ)}{s t:σ}(h:f s=f t):iter f s=iter f t:=by
 cases hf:f t with
 |none=>rw [iter_none (h.trans hf),iter_none hf]
 |some v=>
  cases v with
  |inl u=>rw [zt (h.trans hf),zt hf]
  |inr q=>rw [zg (h.trans hf),zg hf]
theorem expand_eq (s:Str)(plain:Str→Option Str)(pl:Str→Str)(hp: ∀ x:Str,x.length<1073741824→plain x=some (pl x))(hl: ∀ x,(pl x).length≤x.length)(hs:s.length<1073741823):chars_expand s plain=some (ansE (expandL pl s)):=by
 unfold chars_expand expandL
 rw [Text_eq s (by omega),Jj s [60] (by omega)]
 simp only [Option.bind_some]
 cases h1:textB s with
 |false=>rw [if_neg (by simp)];rfl
 |true=>
  cases h2:contains s [60] with
  |true=>rw [if_neg (by simp)];rfl
  |false=>
   rw [if_pos ⟨rfl,rfl⟩]
   simp only [Bool.not_true,cond_false,Option.bind_some]
   rw [iter_same (exp_first s plain),exp_loop s plain pl hp hl (s.length+1) s [] (by omega) (by simp;omega)]
   simp only [Option.bind_some]
   cases expL pl (s.length+1) s<;>rfl
def contentL (s:Str):Option Str:=if contains s [93,93,62]=true then none else expandL id s
theorem Content_eq (s:Str)(hs:s.length<1073741823):QV s=some (ansE (contentL s)):=by
 unfold QV contentL
 rw [Jj s _ (by omega)]
 simp only [Option.bind_some]
 cases contains s [93,93,62] with
 |true=>rfl
 |false=>
  simp only [cond_false]
  rw [expand_eq s (fun x0=>J3 x0) id (fun x _=>rfl) (fun x=>Nat.le_refl _) hs];rfl
theorem map_len (x:Str):(x.map rb).length≤x.length:=by simp
theorem expS_loop (s0:Str): ∀ (n:Nat) (s buf:Str),s.length<n→buf.length+s.length<1073741824→
 iter (qp s0 pairsB) (Sum.inr (s,tblB,buf))=some (match expL (List.map rb) n s with|none=>([],false,tblB)|some r=>(buf++r,true,tblB)):=by
 intro n
 induction n with
 |zero=>intro s buf h;omega
 |succ n ih=>
  intro s buf hn hB
  obtain ⟨k1,k2⟩:=cut_len s [38];obtain ⟨k3,k4⟩:=cut_len (cut s [38]).2.1 [59]
  have k5:=map_len (cut s [38]).1
  have e1:qw s [38]=some (cut s [38]):=Cut_eq s [38] (by omega)
  have e2:qw (cut s [38]).2.1 [59]=some (cut (cut s [38]).2.1 [59]):=Cut_eq _ [59] (by omega)
  have e3:qy (cut s [38]).1 tblB=some ((cut s [38]).1.map rb):=Rep2_eq _ (by omega)
  have e4:zf ((cut s [38]).1.map rb) false buf=some ((((cut s [38]).1.map rb).length:Int),buf++(cut s [38]).1.map rb):=write_eq _ _ _ (by omega)
  have e5:=stands_eq (cut (cut s [38]).2.1 [59]).1 (by omega)
  unfold expL
  cases h1:(cut s [38]).2.2 with
  |false=>
   refine zg ?_;unfold qp
   simp only [Sum.elim_inr,e1,Option.bind_some,e3,e4,h1,Bool.not_false,cond_true,cond_false]
   rw [string_eq _ _ (by simp;omega)];rfl
  |true=>
   have l1:=congrArg List.length (cut_true h1)
   simp only [List.length_append,List.length_singleton] at l1
   cases h2:(cut (cut s [38]).2.1 [59]).2.2 with
   |false=>
    refine zg ?_;unfold qp
    simp only [Sum.elim_inr,e1,Option.bind_some,e3,e4,h1,Bool.not_true,cond_true,cond_false,e2,e5,h2,Bool.not_false]
   |true=>
    have l2:=congrArg List.length (cut_true h2)
    simp only [List.length_append,List.length_singleton] at l2
    cases h3:standsL (cut (cut s [38]).2.1 [59]).1 with
    |none=>
     refine zg ?_;unfold qp
     simp only [Sum.elim_inr,e1,Option.bind_some,e3,e4,h1,Bool.not_true,cond_true,cond_false,e2,e5,h2,h3,ansL,Bool.not_false]
    |some x=>
     have l3:=standsL_len h3
     have e6:zf x false (buf++(cut s [38]).1.map rb)=some ((x.length:Int),buf++(cut s [38]).1.map rb++x):=write_eq _ _ _ (by simp only [List.length_append];omega)
     have k:=ih (cut (cut s [38]).2.1 [59]).2.1 (buf++(cut s [38]).1.map rb++x) (by omega) (by simp only [List.length_append];omega)
     have st:qp s0 pairsB (Sum.inr (s,tblB,buf))=some (.inl (Sum.inr ((cut (cut s [38]).2.1 [59]).2.1,tblB,buf++(cut s [38]).1.map rb++x))):=by
      unfold qp
      simp only [Sum.elim_inr,e1,Option.bind_some,e3,e4,h1,Bool.not_true,cond_true,cond_false,e2,e5,h2,h3,ansL,e6]
     rw [zt st,k]
     simp only [cond_true]
     cases expL (List.map rb) n (cut (cut s [38]).2.1 [59]).2.1 with
     |none=>rfl
     |some r=>simp
theorem expS_first (s:Str)(hs:s.length<1073741823):qp s pairsB (Sum.inl ())=qp s pairsB (Sum.inr (s,tblB,[])):=by
 obtain ⟨k1,k2⟩:=cut_len s [38]
 have e1:qw s [38]=some (cut s [38]):=Cut_eq s [38] (by omega)
 have r1:=Rep1_eq (cut s [38]).1 (by omega)
 have r2:=Rep2_eq (cut s [38]).1 (by omega)
 unfold qp
 simp only [Sum.elim_inl,Sum.elim_inr,e1,Option.bind_some,r1,r2]
 rfl
def valueL (s:Str):Option Str:=expandL (List.map rb) s
theorem Value_eq (s:Str)(hs:s.length<1073741823):chars_Value s=some (ansE (valueL s)):=by
 unfold chars_Value
 have hn:ZG [[9],[32],[10],[32],[13],[32]]=some pairsB:=by
  unfold ZG
  rw [show ((((([[9],[32],[10],[32],[13],[32]]:List Str).length:Nat):Int).tmod 2)==1)=false from rfl]
  simp only [cond_false]
  rw [Z3 (by decide)];rfl
 rw [hn]
 simp only [Option.bind_some]
 unfold zal valueL expandL
 rw [Text_eq s (by omega),Jj s [60] (by omega)]
 simp only [Option.bind_some]
 cases h1:textB s with
 |false=>rw [if_neg (by simp)];rfl
 |true=>
  cases h2:contains s [60] with
  |true=>rw [if_neg (by simp)];rfl
  |false=>
   rw [if_pos ⟨rfl,rfl⟩]
   simp only [Bool.not_true,cond_false,Option.bind_some]
   rw [iter_same (expS_first s hs),expS_loop s (s.length+1) s [] (by omega) (by simp;omega)]
   simp only [Option.bind_some]
   cases expL (List.map rb) (s.length+1) s<;>rfl
theorem valueL_len {s x:Str}(h:valueL s=some x):x.length≤s.length:=by
 unfold valueL expandL at h
 split at h
 ·exact expL_len _ map_len _ _ _ h
 ·cases h
theorem contentL_len {s x:Str}(h:contentL s=some x):x.length≤s.length:=by
 unfold contentL expandL at h
 split at h
 ·cases h
 ·split at h
  ·exact expL_len _ (fun s=>Nat.le_refl _) _ _ _ h
  ·cases h
section
variable (b1 b2:Bool) (l:List ze) (p:List zv) (x:Str)
theorem blanks_loop (u:Str)(hu:u.length<4611686018427387904): ∀ (n i:Nat),u.length-i≤n→i≤u.length→iter (qh u) (i:Int)=some ((i+((u.drop i).takeWhile isB).length:Nat):Int):=by
 intro n
 induction n with
 |zero=>
  intro i h1 h2
  refine zg ?_;unfold qh
  have e:decide ((i:Int)<(u.length:Int))=false:=by rw [decide_eq_false_iff_not];omega
  rw [List.drop_of_length_le (by omega)]
  simp only [e,cond_false];rfl
 |succ n ih=>
  intro i h1 h2
  by_cases hi:i<u.length
  ·have e:decide ((i:Int)<(u.length:Int))=true:=by rw [decide_eq_true_eq];omega
   rw [List.drop_eq_getElem_cons hi]
   cases hb:isB u[i] with
   |false=>
    rw [List.takeWhile_cons_of_neg (by simp [hb])]
    refine zg ?_;unfold qh
    simp only [e,cond_true]
    rw [z7 hi]
    simp only [Option.bind_some,Blank_eq,hb,cond_false];rfl
   |true=>
    rw [List.takeWhile_cons_of_pos hb,List.length_cons,show i+(((u.drop (i+1)).takeWhile isB).length+1)=i+1+((u.drop (i+1)).takeWhile isB).length by omega,←ih (i+1) (by omega) (by omega)]
    refine zt ?_;unfold qh
    simp only [e,cond_true]
    rw [z7 hi]
    simp only [Option.bind_some,Blank_eq,hb,cond_true]
    rw [qb (by omega)]
  ·refine zg ?_;unfold qh
   have e:decide ((i:Int)<(u.length:Int))=false:=by rw [decide_eq_false_iff_not];omega
   rw [List.drop_of_length_le (by omega)]
   simp only [e,cond_false];rfl
def blk (u:Str):Bool×Str:=(decide (0<(u.takeWhile isB).length),u.dropWhile isB)
theorem drop_take (u:Str):u.drop (u.takeWhile isB).length=u.dropWhile isB:=by
 have:=List.takeWhile_append_dropWhile (p:=isB) (l:=u)
 conv=>lhs;rw [←this]
 rw [List.drop_left']
 simp only [List.takeWhile_append_dropWhile]
theorem tw_le (u:Str):(u.takeWhile isB).length≤u.length:=(List.takeWhile_sublist isB).length_le
theorem J4 (u:Str)(hu:u.length<4611686018427387904):zD u b1 b2 l p x=some (blk u):=by
 unfold zD blk
 have k:=blanks_loop u hu u.length 0 (by omega) (by omega)
 rw [List.drop_zero,Nat.zero_add] at k
 rw [show iter (qh u) 0=_ from k]
 simp only [Option.bind_some]
 have:=tw_le u
 rw [qP (by omega),drop_take]
 simp only [Option.bind_some]
 congr 2
 rw [Bool.eq_iff_iff];simp
theorem Jo (q u:Str):zA q u b1 b2 l p x=some ((cutP q u).2,(cutP q u).1):=by
 unfold zA
 rw [CutPrefix_eq]
 simp only [Option.bind_some]
 cases h:(cutP q u).2 with
 |false=>rw [Jq h];rfl
 |true=>rfl
def untl (q u:Str):Str×Bool×Str:=((cut u q).1,(cut u q).2.2,bif (cut u q).2.2 then (cut u q).2.1 else u)
theorem until_eq (q u:Str)(hu:u.length<4294967281):qC q u b1 b2 l p x=some (untl q u):=by
 unfold qC untl
 rw [Cut_eq u q hu]
 simp only [Option.bind_some]
 cases (cut u q).2.2<;>rfl
def wordN:Nat→Str→Nat
 |0,_=>0
 |n+1,s=>if s=[] then 0 else if (decodeL s).1=58∨staC ((decodeL s).1:Int)=true then (decodeL s).2+wordN n (s.drop (decodeL s).2) else 0
theorem wordN_le: ∀ (n:Nat) (s:Str),textB s=true→wordN n s≤s.length:=by
 intro n
 induction n with
 |zero=>intro s h;exact Nat.zero_le _
 |succ n ih=>
  intro s h
  unfold wordN
  split
  ·exact Nat.zero_le _
  ·rename_i hs
   rw [Jv s hs] at h
   simp only [Bool.and_eq_true,Bool.not_eq_true',decide_eq_false_iff_not] at h
   have k:=(dec_shape s hs h.1).1
   split
   ·have:=ih _ h.2.2
    rw [List.length_drop] at this
    omega
   ·exact Nat.zero_le _
theorem enc_width (s:Str)(hs:s≠[])(hv: ¬ err s):(enc ((decodeL s).1:Int)).length=(decodeL s).2:=by
 unfold err at hv
 rw [Go.Lib.decodeL_N] at hv ⊢
 have k0:=(s.getD 0 0).toNat_lt
 have k1:=(s.getD 1 0).toNat_lt
 have k2:=(s.getD 2 0).toNat_lt
 have k3:=(s.getD 3 0).toNat_lt
 rcases Go.Lib.decodeN_shape s.length (s.getD 0 0).toNat (s.getD 1 0).toNat (s.getD 2 0).toNat (s.getD 3 0).toNat with ⟨c,e⟩|⟨c1,c2,c3,cv,e⟩|⟨c1,c2,c3,c4,cv,cs,e⟩|⟨c1,c2,c3,c4,c5,cv,cw,e⟩|e
 ·rw [e]
  dsimp only
  rw [enc_nat (by unfold okR;omega),if_pos (by omega)];rfl
 ·rw [e]
  dsimp only
  rw [enc_nat (by unfold okR;omega),if_neg (by omega),if_pos (by omega)];rfl
 ·rw [e]
  dsimp only
  rw [enc_nat (by unfold okR;omega),if_neg (by omega),if_neg (by omega),if_pos (by omega)];rfl
 ·rw [e]
  dsimp only
  rw [enc_nat (by unfold okR;omega),if_neg (by omega),if_neg (by omega),if_neg (by omega)];rfl
 ·rw [e] at hv;exact absurd ⟨rfl,rfl⟩ hv
theorem word_loop (u:Str)(hu:u.length<4611686018427387904): ∀ (n i:Nat),u.length-i≤n→i≤u.length→textB (u.drop i)=true→iter (zL u) ((i:Int),i)=some ((i+wordN n (u.drop i):Nat):Int):=by
 intro n
 induction n with
 |zero=>
  intro i h1 h2 h3
  refine zg ?_;unfold zL
  have e:decide (i<u.length)=false:=by rw [decide_eq_false_iff_not];omega
  simp only [e,cond_false,wordN,Nat.add_zero]
 |succ n ih=>
  intro i h1 h2 h3
  by_cases hi:i<u.length
  ·have e:decide (i<u.length)=true:=by rw [decide_eq_true_eq];omega
   have hne:u.drop i≠[]:=by
    intro h
    have:=congrArg List.length h
    simp at this;omega
   rw [Jv _ hne] at h3
   simp only [Bool.and_eq_true,Bool.not_eq_true',decide_eq_false_iff_not] at h3
   have k:=(dec_shape _ hne h3.1).1
   rw [List.length_drop] at k
   have hw:=Go.Lib.decodeL_width (u.drop i)
   have he:=enc_width _ hne h3.1
   have h4:=h3.2.2
   rw [List.drop_drop] at h4
   unfold wordN
   rw [if_neg hne]
   have next:zL u ((i:Int),i)=some (.inl (((i+(decodeL (u.drop i)).2:Nat):Int),i+(decodeL (u.drop i)).2))→iter (zL u) ((i:Int),i)=some ((i+((decodeL (u.drop i)).2+wordN n ((u.drop i).drop (decodeL (u.drop i)).2)):Nat):Int):=fun st=>by
    rw [zt st,ih _ (by omega) (by omega) h4,List.drop_drop,Nat.add_assoc]
   by_cases h58:(decodeL (u.drop i)).1=58
   ·rw [if_pos (Or.inl h58)]
    refine next ?_;unfold zL
    simp only [e,cond_true,dec_L]
    rw [show (((decodeL (u.drop i)).1:Int) != 58)=false by simp;omega]
    simp only [cond_false,he]
    rw [qv (by omega)]
    congr 3
   ·have hb:(((decodeL (u.drop i)).1:Int) != 58)=true:=by simp;omega
    cases hc:staC ((decodeL (u.drop i)).1:Int) with
    |true=>
     rw [if_pos (Or.inr rfl)]
     refine next ?_;unfold zL
     simp only [e,cond_true,dec_L,hb,Stands_eq,hc,Option.bind_some,Bool.not_true,cond_false,he]
     rw [qv (by omega)]
     congr 3
    |false=>
     rw [if_neg (by simp [h58])]
     refine zg ?_;unfold zL
     simp only [e,cond_true,dec_L,hb,Stands_eq,hc,Option.bind_some,Bool.not_false];rfl
  ·refine zg ?_;unfold zL
   have e:decide (i<u.length)=false:=by rw [decide_eq_false_iff_not];omega
   have:u.drop i=[]:=List.drop_of_length_le (by omega)
   rw [this]
   simp only [e,cond_false,wordN,if_true,Nat.add_zero]
def wrd (u:Str):Str×Str:=(u.take (wordN u.length u),u.drop (wordN u.length u))
theorem word_eq2 (u:Str)(hu:u.length<4611686018427387904)(ht:textB u=true):qF u b1 b2 l p x=some (wrd u):=by
 unfold qF wrd
 have k:=word_loop u hu u.length 0 (by omega) (by omega) (by rw [List.drop_zero];exact ht)
 rw [List.drop_zero,Nat.zero_add] at k
 rw [show iter (zL u) (0,0)=_ from k]
 have hle:=wordN_le u.length u ht
 simp only [Option.bind_some]
 rw [QQ hle,qP hle];rfl
theorem word_text: ∀ (n:Nat) (s:Str),textB s=true→textB (s.drop (wordN n s))=true:=by
 intro n
 induction n with
 |zero=>intro s h;rw [wordN,List.drop_zero];exact h
 |succ n ih=>
  intro s h
  unfold wordN
  split
  ·rw [List.drop_zero];exact h
  ·rename_i hs
   rw [Jv s hs] at h
   simp only [Bool.and_eq_true] at h
   split
   ·rw [←List.drop_drop];exact ih _ h.2.2
   ·rw [List.drop_zero,Jv s hs];simp only [Bool.and_eq_true];exact h
theorem wrd_text {u:Str}(h:textB u=true):textB (wrd u).2=true:=word_text _ _ h
theorem wrd_len (u:Str):(wrd u).1.length≤u.length∧(wrd u).2.length≤u.length:=by
 unfold wrd
 constructor
 ·simp only [List.length_take];exact Nat.min_le_right _ _
 ·simp only [List.length_drop];omega
theorem J2 (u:Str):(blk u).2.length≤u.length:=(List.dropWhile_sublist isB).length_le
theorem blk_text {u:Str}(h:textB u=true):textB (blk u).2=true:=by
 unfold blk
 have e:=List.takeWhile_append_dropWhile (p:=isB) (l:=u)
 rw [←e] at h
 exact textB_asc _ _ (fun b hb=>isB_asc (List.all_eq_true.1 (List.all_takeWhile) b hb)) h
theorem Ja {q u:Str}(hq: ∀ b∈q,b.toNat<128)(h:textB u=true):textB (cutP q u).1=true:=by
 cases hc:(cutP q u).2 with
 |false=>rw [Jq hc];exact h
 |true=>
  rw [Je hc] at h
  exact textB_asc _ _ hq h
theorem cut_text {q u:Str}(hq: ∀ b∈q,b.toNat<128)(hne:q≠[])(h:textB u=true):textB (cut u q).1=true∧((cut u q).2.2=true→textB (cut u q).2.1=true):=by
 cases hc:(cut u q).2.2 with
 |false=>rw [cut_false hc];exact ⟨h,fun h=>by cases h⟩
 |true=>
  cases q with
  |nil=>exact absurd rfl hne
  |cons c q=>
   have e:=cut_true hc
   rw [e,List.cons_append] at h
   obtain ⟨h1,h2⟩:=textB_split' (hq c (by simp)) h;exact ⟨h1,fun _=>textB_asc q _ (fun b hb=>hq b (by simp [hb])) h2⟩
theorem untl_len (q u:Str):(untl q u).1.length≤u.length∧(untl q u).2.2.length≤u.length:=by
 obtain ⟨h1,h2⟩:=cut_len u q;unfold untl;refine ⟨h1,?_⟩
 cases (cut u q).2.2
 ·exact Nat.le_refl _
 ·exact h2
theorem untl_text {q u:Str}(hq: ∀ b∈q,b.toNat<128)(hne:q≠[])(h:textB u=true):textB (untl q u).1=true∧textB (untl q u).2.2=true:=by
 obtain ⟨h1,h2⟩:=cut_text hq hne h;unfold untl;refine ⟨h1,?_⟩
 cases hc:(cut u q).2.2
 ·exact h
 ·exact h2 hc
def quo (u:Str):Str×Bool×Str:=
 bif (cutP [61] (blk u).2).2 then (match (blk (cutP [61] (blk u).2).1).2 with
  |[]=>([],false,[])
  |c::r=>bif c==39||c==34 then untl [c] r else ([],false,c::r)) else ([],false,(cutP [61] (blk u).2).1)
theorem quoted_eq (u:Str)(hu:u.length<4294967281):qG u b1 b2 l p x=some (quo u):=by
 unfold qG quo
 rw [J4 _ _ _ _ _ u (by omega)]
 simp only [Option.bind_some]
 rw [Jo]
 simp only [Option.bind_some]
 have k1:=J2 u
 have k2:=JC [61] (blk u).2
 cases h1:(cutP [61] (blk u).2).2 with
 |false=>rfl
 |true=>
  simp only [Bool.not_true,cond_false,cond_true]
  rw [J4 _ _ _ _ _ _ (by omega)]
  simp only [Option.bind_some]
  have k3:=J2 (cutP [61] (blk u).2).1
  generalize (blk (cutP [61] (blk u).2).1).2=v at k3
  cases v with
  |nil=>rfl
  |cons c r=>
   simp only [List.length_cons] at k3
   have s0:sub' (c::r) 0 1=some [c]:=QQ (l:=c::r) (k:=1) (by simp)
   have s1:sub' (c::r) 1 (((c::r:Str).length:Nat):Int)=some r:=qP (l:=c::r) (k:=1) (by simp)
   have hc:qD [39,34] [c]=some (c==39||c==34):=by
    rw [Jj _ _ (by decide)]
    congr 1
    have key: ∀ d:Fin 256,contains [39,34] [UInt8.ofNat d.val]=(UInt8.ofNat d.val==39||UInt8.ofNat d.val==34):=by decide+kernel
    have:=key ⟨c.toNat,c.toNat_lt⟩
    simpa using this
   have e:((c::r:Str)==[])=false:=rfl
   simp only [e,cond_false,s0,Option.bind_some,hc]
   cases c==39||c==34 with
   |false=>rfl
   |true=>
    simp only [Bool.not_true,cond_false,cond_true,s1,Option.bind_some]
    rw [until_eq _ _ _ _ _ _ _ (by omega)];rfl
theorem quo_len (u:Str):(quo u).1.length≤u.length∧(quo u).2.2.length≤u.length:=by
 unfold quo
 have k1:=J2 u
 have k2:=JC [61] (blk u).2
 cases h1:(cutP [61] (blk u).2).2 with
 |false=>exact ⟨Nat.zero_le _,by simp only [cond_false];omega⟩
 |true=>
  have k3:=J2 (cutP [61] (blk u).2).1
  simp only [cond_true]
  generalize (blk (cutP [61] (blk u).2).1).2=v at k3
  cases v with
  |nil=>exact ⟨Nat.zero_le _,Nat.zero_le _⟩
  |cons c r=>
   simp only [List.length_cons] at k3
   dsimp only
   cases c==39||c==34 with
   |false=>exact ⟨Nat.zero_le _,by simp only [cond_false,List.length_cons];omega⟩
   |true=>
    have:=untl_len [c] r
    simp only [cond_true];omega
theorem quo_text {u:Str}(h:textB u=true):textB (quo u).1=true∧textB (quo u).2.2=true:=by
 unfold quo
 have k1:=blk_text h
 have k2:=Ja (q:=[61]) (by decide) k1
 cases h1:(cutP [61] (blk u).2).2 with
 |false=>exact ⟨rfl,k2⟩
 |true=>
  have k3:=blk_text k2
  simp only [cond_true]
  generalize (blk (cutP [61] (blk u).2).1).2=v at k3
  cases v with
  |nil=>exact ⟨rfl,rfl⟩
  |cons c r=>
   dsimp only
   cases hc:c==39||c==34 with
   |false=>exact ⟨rfl,k3⟩
   |true=>
    have hc':c.toNat<128:=by
     simp only [Bool.or_eq_true,beq_iff_eq] at hc
     rcases hc with rfl|rfl<;>decide
    rw [textB_cons c r hc',Bool.and_eq_true] at k3
    exact untl_text (fun b hb=>by simp at hb;subst hb;exact hc') (by simp) k3.2
end
def low (b:UInt8):UInt8:=if 65≤b.toNat∧b.toNat≤90 then (b+97)-65 else b
theorem fold_loop (s:Str)(hs:s.length<4611686018427387904): ∀ (n i:Nat) (q r:Str),r.length≤n→q.length=i→i+r.length=s.length→iter (QZ s) ((i:Int),q++r)=some (q++r.map low):=by
 intro n
 induction n with
 |zero=>
  intro i q r h1 h2 h3
  obtain rfl:=List.length_eq_zero_iff.1 (Nat.le_zero.1 h1);refine zg ?_;unfold QZ
  have e:decide ((i:Int)<(s.length:Int))=false:=by rw [decide_eq_false_iff_not];simp at h3;omega
  simp only [e,cond_false,List.map_nil]
 |succ n ih=>
  intro i q r h1 h2 h3
  cases r with
  |nil=>
   refine zg ?_;unfold QZ
   have e:decide ((i:Int)<(s.length:Int))=false:=by rw [decide_eq_false_iff_not];simp at h3;omega
   simp only [e,cond_false,List.map_nil]
  |cons c r=>
   simp only [List.length_cons] at h1 h3
   have e:decide ((i:Int)<(s.length:Int))=true:=by rw [decide_eq_true_eq];omega
   have a0:at' (q++c::r) (i:Int)=some c:=at_mid' q c r rfl h2.symm
   have p0:put (q++c::r) (i:Int) ((c+97)-65)=some (q++((c+97)-65)::r):=put_mid' q c r _ rfl h2.symm
   have k:=ih (i+1) (q++[low c]) r (by omega) (by simp;omega) (by omega)
   simp only [List.append_assoc,List.cons_append,List.nil_append] at k
   rw [List.map_cons,←k]
   refine zt ?_;unfold QZ
   simp only [e,cond_true,a0,Option.bind_some,p0]
   rw [qb (by omega)]
   unfold low
   by_cases h65:65≤c.toNat
   ·rw [show decide ((c.toNat:Int)≥65)=true by rw [decide_eq_true_eq];omega]
    by_cases h90:c.toNat≤90
    ·rw [show decide ((c.toNat:Int)≤90)=true by rw [decide_eq_true_eq];omega,if_pos ⟨h65,h90⟩];rfl
    ·rw [show decide ((c.toNat:Int)≤90)=false by rw [decide_eq_false_iff_not];omega,if_neg (by omega)];rfl
   ·rw [show decide ((c.toNat:Int)≥65)=false by rw [decide_eq_false_iff_not];omega,if_neg (by omega)];rfl
theorem fold_eq (s:Str)(hs:s.length<4611686018427387904):parse_fold s=some (s.map low):=by
 unfold parse_fold
 have:=fold_loop s hs s.length 0 [] s (Nat.le_refl _) rfl (by omega)
 rw [List.nil_append,List.nil_append] at this
 rw [show iter (QZ s) (0,s)=_ from this];rfl
section
variable (b1 b2:Bool) (l:List ze) (p:List zv) (x:Str)
def keyd (key u:Str):Bool×Str:=bif (blk u).1 then ((cutP key (blk u).2).2,(cutP key (blk u).2).1) else (false,(blk u).2)
theorem said_loop (may:List Str)(v:Str×Bool×Str)(hm:may.length<4611686018427387904): ∀ (n i:Nat),may.length-i≤n→i≤may.length→iter (qa may v) (i:Int)=some (bif v.2.1&&(may.drop i).any (fun m=>v.1==m) then .inl () else .inr ()):=by
 intro n
 induction n with
 |zero=>
  intro i h1 h2
  refine zg ?_;unfold qa
  have e:decide ((i:Int)<(may.length:Int))=false:=by rw [decide_eq_false_iff_not];omega
  rw [List.drop_of_length_le (by omega)]
  simp only [e,cond_false,List.any_nil,Bool.and_false]
 |succ n ih=>
  intro i h1 h2
  by_cases hi:i<may.length
  ·have e:decide ((i:Int)<(may.length:Int))=true:=by rw [decide_eq_true_eq];omega
   have k:=ih (i+1) (by omega) (by omega)
   rw [List.drop_eq_getElem_cons hi,List.any_cons]
   cases hv:v.2.1 with
   |false=>
    rw [hv,Bool.false_and] at k
    rw [Bool.false_and,←k]
    refine zt ?_;unfold qa
    simp only [e,cond_true]
    rw [z7 hi]
    simp only [Option.bind_some,hv,cond_false]
    rw [qb (by omega)]
   |true=>
    rw [hv,Bool.true_and] at k
    rw [Bool.true_and]
    cases hc:v.1==may[i] with
    |true=>
     refine zg ?_;unfold qa
     simp only [e,cond_true]
     rw [z7 hi]
     simp only [Option.bind_some,hv,cond_true,hc,Bool.true_or]
    |false=>
     rw [Bool.false_or,←k]
     refine zt ?_;unfold qa
     simp only [e,cond_true]
     rw [z7 hi]
     simp only [Option.bind_some,hv,cond_true,hc,cond_false]
     rw [qb (by omega)]
  ·refine zg ?_;unfold qa
   have e:decide ((i:Int)<(may.length:Int))=false:=by rw [decide_eq_false_iff_not];omega
   rw [List.drop_of_length_le (by omega)]
   simp only [e,cond_false,List.any_nil,Bool.and_false]
def saidL (key u:Str)(may:List Str):Bool×Str:=bif (keyd key u).1 then ((quo (keyd key u).2).2.1&&may.any (fun m=>(quo (keyd key u).2).1==m),(quo (keyd key u).2).2.2) else (true,u)
theorem keyd_len (key u:Str):(keyd key u).2.length≤u.length:=by
 unfold keyd
 have k1:=J2 u
 have k2:=JC key (blk u).2
 cases (blk u).1 with
 |false=>exact k1
 |true=>simp only [cond_true];omega
theorem said_eq (key u:Str)(may:List Str)(hm:may.length<4611686018427387904)(hu:u.length<4294967281):Zx key u b1 b2 l p x may=some (saidL key u may):=by
 unfold Zx saidL
 rw [J4 _ _ _ _ _ u (by omega)]
 simp only [Option.bind_some,Jo]
 have hk:((bif (!(blk u).1) then some (true,(blk u).2) else some ((!(cutP key (blk u).2).2),(cutP key (blk u).2).1)):Option (Bool×Str))=some (!(keyd key u).1,(keyd key u).2):=by
  unfold keyd
  cases (blk u).1<;>rfl
 have k1:=keyd_len key u
 rw [hk]
 simp only [Option.bind_some]
 cases h:(keyd key u).1 with
 |false=>rfl
 |true=>
  simp only [Bool.not_true,cond_false,cond_true]
  rw [quoted_eq _ _ _ _ _ _ (by omega)]
  simp only [Option.bind_some]
  have k:=said_loop may (quo (keyd key u).2) hm may.length 0 (by omega) (by omega)
  rw [List.drop_zero] at k
  rw [show iter (qa may (quo (keyd key u).2)) 0=_ from k]
  cases (quo (keyd key u).2).2.1&&may.any (fun m=>(quo (keyd key u).2).1==m)<;>rfl
def encL (u:Str):Bool×Str:=bif (keyd [101,110,99,111,100,105,110,103] u).1 then ((quo (keyd [101,110,99,111,100,105,110,103] u).2).2.1&&((quo (keyd [101,110,99,111,100,105,110,103] u).2).1.map low==[117,116,102,45,56]),(quo (keyd [101,110,99,111,100,105,110,103] u).2).2.2) else (true,u)
theorem encoding_eq (u:Str)(hu:u.length<4294967281):Zk u b1 b2 l p x=some (encL u):=by
 unfold Zk encL
 rw [J4 _ _ _ _ _ u (by omega)]
 simp only [Option.bind_some,Jo]
 have hk:((bif (!(blk u).1) then some (true,(blk u).2) else some ((!(cutP [101,110,99,111,100,105,110,103] (blk u).2).2),(cutP [101,110,99,111,100,105,110,103] (blk u).2).1)):Option (Bool×Str))=some (!(keyd [101,110,99,111,100,105,110,103] u).1,(keyd [101,110,99,111,100,105,110,103] u).2):=by
  unfold keyd
  cases (blk u).1<;>rfl
 have k1:=keyd_len [101,110,99,111,100,105,110,103] u
 rw [hk]
 simp only [Option.bind_some]
 cases h:(keyd [101,110,99,111,100,105,110,103] u).1 with
 |false=>rfl
 |true=>
  simp only [Bool.not_true,cond_false,cond_true]
  rw [quoted_eq _ _ _ _ _ _ (by omega)]
  simp only [Option.bind_some]
  have k2:=quo_len (keyd [101,110,99,111,100,105,110,103] u).2
  cases (quo (keyd [101,110,99,111,100,105,110,103] u).2).2.1 with
  |false=>rfl
  |true=>
   simp only [cond_true,Bool.true_and]
   rw [fold_eq _ (by omega)];rfl
theorem keyd_text {key u:Str}(hk: ∀ b∈key,b.toNat<128)(h:textB u=true):textB (keyd key u).2=true:=by
 unfold keyd
 cases (blk u).1 with
 |false=>exact blk_text h
 |true=>exact Ja hk (blk_text h)
theorem saidL_ok {key u:Str}(may:List Str)(hk: ∀ b∈key,b.toNat<128)(h:textB u=true):(saidL key u may).2.length≤u.length∧textB (saidL key u may).2=true:=by
 unfold saidL
 have k1:=keyd_len key u
 cases (keyd key u).1 with
 |false=>exact ⟨Nat.le_refl _,h⟩
 |true=>
  have k2:=quo_len (keyd key u).2
  exact ⟨by simp only [cond_true];omega,(quo_text (keyd_text hk h)).2⟩
theorem encL_ok {u:Str}(h:textB u=true):(encL u).2.length≤u.length∧textB (encL u).2=true:=by
 unfold encL
 have k1:=keyd_len [101,110,99,111,100,105,110,103] u
 cases (keyd [101,110,99,111,100,105,110,103] u).1 with
 |false=>exact ⟨Nat.le_refl _,h⟩
 |true=>
  have k2:=quo_len (keyd [101,110,99,111,100,105,110,103] u).2
  exact ⟨by simp only [cond_true];omega,(quo_text (keyd_text (by decide) h)).2⟩
def declL (u:Str):Bool×Str:=match u with
 |a0::a1::a2::a3::a4::a5::r=>
  bif [a0,a1,a2,a3,a4]==[60,63,120,109,108]&&isB a5 then
   (let w:=a5::r
    bif [118,101,114,115,105,111,110].isPrefixOf (blk w).2 then
     (let s1:=saidL [118,101,114,115,105,111,110] w [[49,46,48]]
      bif s1.1 then (let s2:=encL s1.2;bif s2.1 then (let s3:=saidL [115,116,97,110,100,97,108,111,110,101] s2.2 [[121,101,115],[110,111]];bif s3.1 then ((cutP [63,62] (blk s3.2).2).2,(cutP [63,62] (blk s3.2).2).1) else (false,s3.2)) else (false,s2.2)) else (false,s1.2))
    else (false,(blk w).2))
  else (true,u)
 |_=>(true,u)
theorem declaration_eq (u:Str)(hu:u.length<4294967281)(ht:textB u=true): ∃ v,qM u b1 b2 l p x=some v∧v=declL u∧(v.1=true→v.2.length≤u.length∧textB v.2=true):=by
 unfold qM
 match u,hu,ht with
 |[],_,ht=>exact ⟨_,rfl,rfl,fun _=>⟨Nat.le_refl _,ht⟩⟩
 |[a0],_,ht=>exact ⟨_,rfl,rfl,fun _=>⟨Nat.le_refl _,ht⟩⟩
 |[a0,a1],_,ht=>exact ⟨_,rfl,rfl,fun _=>⟨Nat.le_refl _,ht⟩⟩
 |[a0,a1,a2],_,ht=>exact ⟨_,rfl,rfl,fun _=>⟨Nat.le_refl _,ht⟩⟩
 |[a0,a1,a2,a3],_,ht=>exact ⟨_,rfl,rfl,fun _=>⟨Nat.le_refl _,ht⟩⟩
 |[a0,a1,a2,a3,a4],_,ht=>exact ⟨_,rfl,rfl,fun _=>⟨Nat.le_refl _,ht⟩⟩
 |a0::a1::a2::a3::a4::a5::r,hu,ht=>
  have e:decide ((((a0::a1::a2::a3::a4::a5::r:Str).length:Nat):Int)<6)=false:=by rw [decide_eq_false_iff_not];simp;omega
  have s0:sub' (a0::a1::a2::a3::a4::a5::r) 0 5=some [a0,a1,a2,a3,a4]:=QQ (l:=a0::a1::a2::a3::a4::a5::r) (k:=5) (by simp)
  have s5:sub' (a0::a1::a2::a3::a4::a5::r) 5 (((a0::a1::a2::a3::a4::a5::r:Str).length:Nat):Int)=some (a5::r):=qP (l:=a0::a1::a2::a3::a4::a5::r) (k:=5) (by simp)
  have at5:at' (a0::a1::a2::a3::a4::a5::r) 5=some a5:=rfl
  unfold declL
  simp only [e,cond_false,s0,Option.bind_some,at5,Blank_eq]
  cases h0:[a0,a1,a2,a3,a4]==[60,63,120,109,108] with
  |false=>exact ⟨_,rfl,rfl,fun _=>⟨Nat.le_refl _,ht⟩⟩
  |true=>
   cases h5:isB a5 with
   |false=>exact ⟨_,rfl,rfl,fun _=>⟨Nat.le_refl _,ht⟩⟩
   |true=>
    simp only [List.length_cons] at hu
    have htw:textB (a5::r)=true:=by
     have h0':[a0,a1,a2,a3,a4]=[60,63,120,109,108]:=by simpa using h0
     refine textB_asc [a0,a1,a2,a3,a4] (a5::r) ?_ ht
     rw [h0'];decide
    simp only [Bool.not_true,cond_false,Option.bind_some,s5,Bool.and_self,cond_true]
    rw [J4 _ _ _ _ _ _ (by simp;omega)]
    simp only [Option.bind_some,HasPrefix_eq]
    cases hp:[118,101,114,115,105,111,110].isPrefixOf (blk (a5::r)).2 with
    |false=>exact ⟨_,rfl,rfl,fun h=>by cases h⟩
    |true=>
     simp only [Bool.not_true,cond_false,cond_true]
     obtain ⟨l1,t1⟩:=saidL_ok (key:=[118,101,114,115,105,111,110]) [[49,46,48]] (by decide) htw
     rw [said_eq _ _ _ _ _ _ _ _ (by decide) (by simp;omega)]
     simp only [Option.bind_some]
     simp only [List.length_cons] at l1
     generalize saidL [118,101,114,115,105,111,110] (a5::r) [[49,46,48]]=s1 at l1 t1
     cases h1:s1.1 with
     |false=>exact ⟨_,rfl,rfl,fun h=>by cases h⟩
     |true=>
      simp only [Bool.not_true,cond_false,cond_true]
      obtain ⟨l2,t2⟩:=encL_ok t1
      rw [encoding_eq _ _ _ _ _ _ (by omega)]
      simp only [Option.bind_some]
      generalize encL s1.2=s2 at l2 t2
      cases h2:s2.1 with
      |false=>exact ⟨_,rfl,rfl,fun h=>by cases h⟩
      |true=>
       simp only [Bool.not_true,cond_false,cond_true]
       obtain ⟨l3,t3⟩:=saidL_ok (key:=[115,116,97,110,100,97,108,111,110,101]) [[121,101,115],[110,111]] (by decide) t2
       rw [said_eq _ _ _ _ _ _ _ _ (by decide) (by omega)]
       simp only [Option.bind_some]
       generalize saidL [115,116,97,110,100,97,108,111,110,101] s2.2 [[121,101,115],[110,111]]=s3 at l3 t3
       cases h3:s3.1 with
       |false=>exact ⟨_,rfl,rfl,fun h=>by cases h⟩
       |true=>
        simp only [Bool.not_true,cond_false,cond_true]
        rw [J4 _ _ _ _ _ _ (by omega)]
        simp only [Option.bind_some,Jo]
        have l4:=J2 s3.2
        have l5:=JC [63,62] (blk s3.2).2
        exact ⟨_,rfl,rfl,fun _=>⟨by simp only [List.length_cons];omega,Ja (by decide) (blk_text t3)⟩⟩
end
def parL (p:List zv):Int:=match p.getLast? with
 |none=>0
 |some o=>o.n
theorem last_at {α:Type}{p:List α}(hp:p.length<4611686018427387904){o:α}(h:p.getLast? =some o):at' p (w64 ((p.length:Int)-1))=some o∧0<p.length:=by
 rcases List.eq_nil_or_concat p with rfl|⟨q,c,rfl⟩
 ·cases h
 ·simp only [List.concat_eq_append,List.length_append,List.length_singleton] at*
  rw [List.getLast?_append] at h
  simp at h
  subst h
  rw [show ((q.length+1:Nat):Int)-1=((q.length:Nat):Int) by omega,w64_nat (by omega)]
  exact ⟨by rw [Q1];simp,by omega⟩
section
variable (b1 b2:Bool) (l:List ze) (p:List zv) (x s:Str)
theorem parent_eq (hp:p.length<4611686018427387904):qH s b1 b2 l p x=some (parL p):=by
 unfold qH parL
 cases h:p.getLast? with
 |none=>
  rw [List.getLast?_eq_none_iff] at h
  subst h;rfl
 |some o=>
  obtain ⟨h1,h2⟩:=last_at hp h
  rw [show ((p.length:Int)==0)=false by rw [beq_eq_false_iff_ne];omega]
  simp only [cond_false,h1,Option.bind_some]
def flL (nb:Bool)(l:List ze)(p:List zv)(x:Str):Bool×List ze×Str:=if x=[] then (nb,l,x) else (true,l++[ze.mk 2 (parL p) [] [] [] x [] []],[])
theorem flush_eq (hp:p.length<4611686018427387904)(hl:l.length≤1073741824)(hx:x.length≤1073741824):qL s b1 b2 l p x=some (flL b1 l p x):=by
 unfold qL Qj flL
 simp only [Option.bind_some]
 by_cases h:x=[]
 ·subst h;rfl
 ·have h0:0<x.length:=List.length_pos_iff.2 h
  rw [if_neg h,show decide ((x.length:Int)>0)=true by rw [decide_eq_true_eq];omega]
  simp only [cond_true]
  rw [parent_eq _ _ _ _ _ _ hp]
  simp only [Option.bind_some]
  unfold ZO unsf ZY
  rw [if_pos (by omega)]
  simp only [Option.bind_some]
  rw [Z3 (by simp;omega)];rfl
theorem flL_len (nb:Bool):(flL nb l p x).2.1.length≤l.length+1∧l.length≤(flL nb l p x).2.1.length∧(flL nb l p x).2.2=[]:=by
 unfold flL
 split
 ·rename_i h;exact ⟨by simp,Nat.le_refl _,h⟩
 ·simp
def puL (kind:Int)(pre loc uri txt:Str)(ds:List za)(ats:List zO)(nb:Bool)(l:List ze)(p:List zv)(x:Str):Bool×List ze×Str:=((flL nb l p x).1,(flL nb l p x).2.1++[ze.mk kind (parL p) pre loc uri txt ds ats],(flL nb l p x).2.2)
theorem put1_eq (k a:Int)(u3 u4 u5 u6:Str)(hp:p.length<4611686018427387904)(hl:l.length≤1073741823)(hx:x.length≤1073741824):Zd k a u3 u4 u5 u6 s b1 b2 l p x=some (puL k u3 u4 u5 u6 [] [] b1 l p x):=by
 unfold Zd puL
 rw [flush_eq _ _ _ _ _ _ hp (by omega) hx]
 simp only [Option.bind_some]
 rw [parent_eq _ _ _ _ _ _ hp]
 simp only [Option.bind_some]
 have:=flL_len l p x b1
 rw [Z3 (by simp;omega)];rfl
theorem put3_eq (k a:Int)(u3 u4 u5 u6:Str)(ds:List za)(ats:List zO)(hp:p.length<4611686018427387904)(hl:l.length≤1073741823)(hx:x.length≤1073741824):Qg k a u3 u4 u5 u6 s b1 b2 l p x ds ats=some (puL k u3 u4 u5 u6 ds ats b1 l p x):=by
 unfold Qg puL
 rw [flush_eq _ _ _ _ _ _ hp (by omega) hx]
 simp only [Option.bind_some]
 rw [parent_eq _ _ _ _ _ _ hp]
 simp only [Option.bind_some]
 have:=flL_len l p x b1
 rw [Z3 (by simp;omega)];rfl
theorem writeR_eq (t:Str)(h:x.length+t.length≤140737488355328):zK t s b1 b2 l p x=some ((t.length:Int),x++t):=by
 unfold zK Zp
 rw [Z3 (by omega)]
 cases b1<;>rfl
def insL (s:Str)(nb:Bool)(l:List ze)(p:List zv)(x:Str):Bool×Str×Bool×List ze×Str:=
 bif !(untl [63,62] (blk (wrd s).2).2).2.1 then (false,(untl [63,62] (blk (wrd s).2).2).2.2,nb,l,x)
 else bif !(blk (wrd s).2).1&& !((untl [63,62] (blk (wrd s).2).2).1==[]) then (false,(untl [63,62] (blk (wrd s).2).2).2.2,nb,l,x)
 else (true,(untl [63,62] (blk (wrd s).2).2).2.2,puL 4 [] (wrd s).1 [] (untl [63,62] (blk (wrd s).2).2).1 [] [] nb l p x)
theorem instruction_eq (hs:s.length<4294967281)(ht:textB s=true)(hp:p.length<4611686018427387904)(hl:l.length≤1073741823)(hx:x.length≤1073741824):qO s b1 b2 l p x=some (insL s b1 l p x):=by
 unfold qO insL
 have k1:=wrd_len s
 have k2:=J2 (wrd s).2
 rw [word_eq2 _ _ _ _ _ s (by omega) ht]
 simp only [Option.bind_some]
 rw [J4 _ _ _ _ _ _ (by omega)]
 simp only [Option.bind_some]
 rw [until_eq _ _ _ _ _ _ _ (by omega)]
 simp only [Option.bind_some]
 rw [put1_eq _ _ _ _ _ _ _ _ _ _ _ _ hp hl hx]
 simp only [Option.bind_some]
 cases (untl [63,62] (blk (wrd s).2).2).2.1<;>cases (blk (wrd s).2).1<;>cases (untl [63,62] (blk (wrd s).2).2).1==[]<;>rfl
def finL (s:Str)(nb:Bool)(l:List ze)(p:List zv)(x:Str):Bool×Str×Bool×List ze×List zv×Str:=match p.getLast? with
 |none=>(false,s,nb,l,p,x)
 |some o=>bif !((wrd s).1==o.name) then (false,(wrd s).2,nb,l,p,x) else bif !(cutP [62] (blk (wrd s).2).2).2 then (false,(cutP [62] (blk (wrd s).2).2).1,nb,l,p,x)
  else (true,(cutP [62] (blk (wrd s).2).2).1,(flL nb l p x).1,(flL nb l p x).2.1,p.dropLast,(flL nb l p x).2.2)
theorem finish_eq (hs:s.length<4294967281)(ht:textB s=true)(hp:p.length<4611686018427387904)(hl:l.length≤1073741823)(hx:x.length≤1073741824):ZE s b1 b2 l p x=some (finL s b1 l p x):=by
 unfold ZE finL
 cases h:p.getLast? with
 |none=>
  rw [List.getLast?_eq_none_iff] at h
  subst h
  rw [show w64 (((([]:List zv).length:Nat):Int)-1)= -1 from qv (by decide)];rfl
 |some o=>
  obtain ⟨h1,h2⟩:=last_at hp h
  have k1:=wrd_len s
  have k2:=J2 (wrd s).2
  have hw:w64 ((p.length:Int)-1)=((p.length-1:Nat):Int):=by rw [qv (by omega)];omega
  rw [hw] at h1 ⊢
  rw [show decide (((p.length-1:Nat):Int)<0)=false by rw [decide_eq_false_iff_not];omega]
  simp only [cond_false]
  rw [word_eq2 _ _ _ _ _ s (by omega) ht]
  simp only [Option.bind_some,h1]
  cases h3:(wrd s).1==o.name with
  |false=>rfl
  |true=>
   simp only [Bool.not_true,cond_false]
   rw [J4 _ _ _ _ _ _ (by omega)]
   simp only [Option.bind_some,Jo]
   cases h4:(cutP [62] (blk (wrd s).2).2).2 with
   |false=>rfl
   |true=>
    simp only [Bool.not_true,cond_false]
    rw [flush_eq _ _ _ _ _ _ hp (by omega) hx]
    simp only [Option.bind_some]
    rw [rng_of (by omega)]
    simp only [Option.bind_some,Int.toNat_natCast]
    rw [prt_of (by omega)]
    simp only [Option.bind_some,List.drop_zero]
    rw [←List.dropLast_eq_take]
theorem ib_spec (c:UInt8): ∀ s:Str,(W.indexByte s c= -1∧s.takeWhile (fun b=> !(b==c))=s)∨(W.indexByte s c=((s.takeWhile (fun b=> !(b==c))).length:Int)∧(s.takeWhile (fun b=> !(b==c))).length<s.length)
 |[]=>Or.inl ⟨rfl,rfl⟩
 |b::r=>by
  unfold W.indexByte
  cases hb:b==c with
  |true=>
   right
   rw [List.takeWhile_cons_of_neg (by simp [hb])]
   exact ⟨rfl,by simp⟩
  |false=>
   rw [List.takeWhile_cons_of_pos (by simp [hb])]
   simp only [Bool.false_eq_true,if_false]
   rcases ib_spec c r with ⟨h1,h2⟩|⟨h1,h2⟩
   ·left
    rw [h1]
    exact ⟨rfl,by rw [h2]⟩
   ·right
    rw [h1]
    have: ¬ (((r.takeWhile (fun b=> !(b==c))).length:Int)== -1)=true:=by simp
    rw [if_neg this]
    exact ⟨by simp,by simpa using h2⟩
def rawL (s:Str):Str:=s.takeWhile (fun b=> !(b==60))
def restL (s:Str):Str:=s.dropWhile (fun b=> !(b==60))
theorem raw_rest (s:Str):rawL s++restL s=s:=List.takeWhile_append_dropWhile
theorem raw_len (s:Str):(rawL s).length+(restL s).length=s.length:=by
 have:=congrArg List.length (raw_rest s)
 rw [List.length_append] at this
 exact this
def betL (s:Str)(nb:Bool)(p:List zv)(x:Str):Bool×Str×Bool×Str:=
 if p=[] then ((rawL s).all isB,restL s,nb,x) else ((ansE (contentL (rawL s))).2,restL s,false,x++(ansE (contentL (rawL s))).1)
theorem ansE_len (s:Str):(ansE (contentL s)).1.length≤s.length:=by
 cases h:contentL s with
 |none=>exact Nat.zero_le _
 |some t=>exact contentL_len h
theorem between_eq (hs:s.length<1073741823)(hp:p.length<4611686018427387904)(hx:x.length≤1073741824):Zu s b1 b2 l p x=some (betL s b1 p x):=by
 unfold Zu betL
 have hi:JP s 60=some (W.indexByte s 60):=rfl
 rw [hi]
 simp only [Option.bind_some]
 have hrl:=raw_len s
 have body: ∀ (raw rest:Str),raw=rawL s→rest=restL s→((bif ((p.length:Int)==0) then (name_Trim raw).bind fun v4=>some ((v4==[]),rest,b1,x) else (QV raw).bind fun v5=>(zK v5.1 rest b1 b2 l p x).bind fun v6=>some (v5.2,rest,false,v6.2)):Option (Bool×Str×Bool×Str))=some (if p=[] then ((rawL s).all isB,restL s,b1,x) else ((ansE (contentL (rawL s))).2,restL s,false,x++(ansE (contentL (rawL s))).1)):=by
  intro raw rest h1 h2
  subst h1 h2
  by_cases hp0:p=[]
  ·subst hp0
   obtain ⟨q,k1,k2⟩:=Trim_eq (rawL s) (by omega)
   rw [if_pos rfl]
   simp only [List.length_nil,show ((((0:Nat):Int))==0)=true from rfl,cond_true,k1,Option.bind_some,k2]
  ·have:0<p.length:=List.length_pos_iff.2 hp0
   rw [if_neg hp0,show ((p.length:Int)==0)=false by rw [beq_eq_false_iff_ne];omega]
   simp only [cond_false]
   rw [Content_eq _ (by omega)]
   simp only [Option.bind_some]
   have:=ansE_len (rawL s)
   rw [writeR_eq _ _ _ _ _ _ _ (by omega)];rfl
 rcases ib_spec 60 s with ⟨h1,h2⟩|⟨h1,h2⟩
 ·rw [h1,show decide ((-1:Int)<0)=true from rfl]
  simp only [cond_true]
  have e1:rawL s=s:=h2
  have e2:restL s=[]:=by
   have:=raw_len s
   rw [e1] at this
   exact List.length_eq_zero_iff.1 (by omega)
  rw [QQ (Nat.le_refl _),List.take_length,qP (Nat.le_refl _)]
  simp only [Option.bind_some]
  exact body s _ e1.symm (by rw [e2];simp)
 ·rw [h1,show decide ((((s.takeWhile (fun b=> !(b==60))).length:Nat):Int)<0)=false by rw [decide_eq_false_iff_not];omega]
  simp only [cond_false]
  rw [QQ (by omega),qP (by omega)]
  simp only [Option.bind_some]
  refine body _ _ ?_ ?_
  ·have:=List.takeWhile_append_dropWhile (p:=fun b=> !(b==60)) (l:=s)
   conv=>lhs;rw [←this]
   rw [List.take_left']
   ·rfl
   ·simp only [List.takeWhile_append_dropWhile]
  ·have:=List.takeWhile_append_dropWhile (p:=fun b=> !(b==60)) (l:=s)
   conv=>lhs;rw [←this]
   rw [List.drop_left']
   ·rfl
   ·simp only [List.takeWhile_append_dropWhile]
end
def xmlURI:Str:=[104,116,116,112,58,47,47,119,119,119,46,119,51,46,111,114,103,47,88,77,76,47,49,57,57,56,47,110,97,109,101,115,112,97,99,101]
def lookD (q:Str):List za→Option Str
 |[]=>none
 |d::r=>if d.Prefix=q then some d.URI else lookD q r
def declsAt (l:List ze)(n:Int):List za:=match l[n.toNat]? with
 |none=>[]
 |some x=>x.Decls
def upL (q:Str)(l:List ze):List zv→Option Str
 |[]=>none
 |o::r=>match lookD q (declsAt l o.n) with
  |some u=>some u
  |none=>upL q l r
def meansL (q:Str)(l:List ze)(p:List zv)(own:List za):Str:=if q=[120,109,108] then xmlURI else match lookD q own with
 |some u=>u
 |none=>(upL q l p.reverse).getD []
def PathOk (l:List ze)(p:List zv):Prop:= ∀ o∈p,0≤o.n∧o.n<(l.length:Int)
theorem look_loop (q:Str)(ds:List za)(hd:ds.length<4611686018427387904): ∀ (n i:Nat),ds.length-i≤n→i≤ds.length→iter (ql q ds) (i:Int)=some (match lookD q (ds.drop i) with|some u=> .inl u|none=> .inr ()):=by
 intro n
 induction n with
 |zero=>
  intro i h1 h2
  refine zg ?_;unfold ql
  have e:decide ((i:Int)<(ds.length:Int))=false:=by rw [decide_eq_false_iff_not];omega
  rw [List.drop_of_length_le (by omega)]
  simp only [e,cond_false,lookD]
 |succ n ih=>
  intro i h1 h2
  by_cases hi:i<ds.length
  ·have e:decide ((i:Int)<(ds.length:Int))=true:=by rw [decide_eq_true_eq];omega
   rw [List.drop_eq_getElem_cons hi]
   unfold lookD
   by_cases hp:ds[i].Prefix=q
   ·rw [if_pos hp]
    refine zg ?_;unfold ql
    simp only [e,cond_true]
    rw [z7 hi]
    simp only [Option.bind_some]
    rw [beq_iff_eq.2 hp];rfl
   ·rw [if_neg hp,←ih (i+1) (by omega) (by omega)]
    refine zt ?_;unfold ql
    simp only [e,cond_true]
    rw [z7 hi]
    simp only [Option.bind_some]
    rw [beq_eq_false_iff_ne.2 hp]
    simp only [cond_false]
    rw [qb (by omega)]
  ·refine zg ?_;unfold ql
   have e:decide ((i:Int)<(ds.length:Int))=false:=by rw [decide_eq_false_iff_not];omega
   rw [List.drop_of_length_le (by omega)]
   simp only [e,cond_false,lookD]
theorem look_all (q:Str)(ds:List za)(hd:ds.length<4611686018427387904):iter (ql q ds) 0=some (match lookD q ds with|some u=> .inl u|none=> .inr ()):=by
 have:=look_loop q ds hd ds.length 0 (by omega) (by omega)
 rw [List.drop_zero] at this
 exact this
def DsOk (l:List ze):Prop:= ∀ x∈l,x.Decls.length<4611686018427387904
theorem up_loop (q:Str)(l:List ze)(p:List zv)(own:List za)(hp:p.length<4611686018427387904)(ho:PathOk l p)(hl:DsOk l): ∀ m:Nat,m≤p.length→iter (qm q l p own) ((m:Int)-1)=some (match upL q l (p.take m).reverse with|some u=> .inl u|none=> .inr ()):=by
 intro m
 induction m with
 |zero=>
  intro h
  refine zg ?_;unfold qm
  rw [show decide (((0:Nat):Int)-1≥0)=false from rfl];rfl
 |succ m ih=>
  intro h
  have hm:m<p.length:=by omega
  rw [show (((m+1:Nat):Int)-1)=(m:Int) by omega,List.take_succ_eq_append_getElem hm,List.reverse_append]
  have e0:decide ((m:Int)≥0)=true:=by simp
  have e1:decide ((m:Int)<(p.length:Int))=true:=by rw [decide_eq_true_eq];omega
  obtain ⟨h0,h1⟩:=ho p[m] (List.getElem_mem hm)
  have hn:(p[m].n.toNat)<l.length:=by omega
  have an:at' l p[m].n=some l[p[m].n.toNat]:=by
   have h2:((p[m].n.toNat:Nat):Int)=p[m].n:=by omega
   have h3:=z7 hn
   rw [h2] at h3
   exact h3
  have hds:=hl l[p[m].n.toNat] (List.getElem_mem hn)
  have hin:iter (QW q l[p[m].n.toNat]) 0=some (match lookD q l[p[m].n.toNat].Decls with|some u=> .inl u|none=> .inr ()):=look_all q _ hds
  have hda:declsAt l p[m].n=l[p[m].n.toNat].Decls:=by unfold declsAt;rw [List.getElem?_eq_getElem hn]
  rw [show [p[m]].reverse++(p.take m).reverse=p[m]::(p.take m).reverse from rfl]
  unfold upL
  rw [hda]
  cases hlk:lookD q l[p[m].n.toNat].Decls with
  |some u=>
   refine zg ?_;unfold qm
   simp only [e0,e1,cond_true]
   rw [z7 hm]
   simp only [Option.bind_some,an,hin,hlk,Sum.elim_inl]
  |none=>
   dsimp only
   rw [←ih (by omega)]
   refine zt ?_;unfold qm
   simp only [e0,e1,cond_true]
   rw [z7 hm]
   simp only [Option.bind_some,an,hin,hlk,Sum.elim_inr]
   rw [qv (by omega)]
section
variable (b1 b2:Bool) (l:List ze) (p:List zv) (x s:Str)
theorem means_eq (q:Str)(own:List za)(hp:p.length<4611686018427387903)(ho:PathOk l p)(hl:DsOk l)(hown:own.length<4611686018427387904):Zf q s b1 b2 l p x own=some (meansL q l p own):=by
 unfold Zf meansL
 by_cases hq:q=[120,109,108]
 ·rw [if_pos hq,beq_iff_eq.2 hq];rfl
 ·rw [if_neg hq,beq_eq_false_iff_ne.2 hq]
  simp only [cond_false]
  have e0:decide ((p.length:Int)≥0)=true:=by simp
  have e1:decide ((p.length:Int)<(p.length:Int))=false:=by simp
  have hlk:=look_all q own hown
  cases h:lookD q own with
  |some u=>
   rw [h] at hlk
   rw [zg (q:= .inl u) (by
    unfold qm
    simp only [e0,e1,cond_true,cond_false,hlk,Option.bind_some,Sum.elim_inl])];rfl
  |none=>
   rw [h] at hlk
   have k:=up_loop q l p own (by omega) ho hl p.length (Nat.le_refl _)
   rw [List.take_length] at k
   rw [zt (s':=(p.length:Int)-1) (by
    unfold qm
    simp only [e0,e1,cond_true,cond_false,hlk,Option.bind_some,Sum.elim_inr]
    rw [qv (by omega)]),k]
   cases upL q l p.reverse<;>rfl
def attL (l:List ze)(p:List zv)(own:List za)(a:zO):zO:=if a.Prefix=[] then a else zO.mk a.Prefix a.Local (meansL a.Prefix l p own) a.Value
theorem att_loop (own:List za)(ats:List zO)(hp:p.length<4611686018427387903)(ho:PathOk l p)(hl:DsOk l)(hown:own.length<4611686018427387904)(ha:ats.length<4611686018427387904): ∀ (n i:Nat),ats.length-i≤n→i≤ats.length→
 iter (qx s b1 b2 l p x own ats) ((i:Int),(ats.take i).map (attL l p own)++ats.drop i)=some (ats.map (attL l p own)):=by
 intro n
 induction n with
 |zero=>
  intro i h1 h2
  refine zg ?_;unfold qx
  have e:decide ((i:Int)<(ats.length:Int))=false:=by rw [decide_eq_false_iff_not];omega
  rw [List.drop_of_length_le (by omega),List.take_of_length_le (by omega),List.append_nil]
  simp only [e,cond_false]
 |succ n ih=>
  intro i h1 h2
  by_cases hi:i<ats.length
  ·have e:decide ((i:Int)<(ats.length:Int))=true:=by rw [decide_eq_true_eq];omega
   have k:=ih (i+1) (by omega) (by omega)
   rw [List.take_succ_eq_append_getElem hi,List.map_append,List.append_assoc] at k
   rw [←k,List.drop_eq_getElem_cons hi]
   have hti:i=((ats.take i).map (attL l p own)).length:=by simp;omega
   have a0:at' ((ats.take i).map (attL l p own)++ats[i]::ats.drop (i+1)) (i:Int)=some ats[i]:=at_mid' _ _ _ rfl hti
   refine zt ?_;unfold qx
   simp only [e,cond_true,a0,Option.bind_some]
   by_cases hq:ats[i].Prefix=[]
   ·have ea:attL l p own ats[i]=ats[i]:=by unfold attL;rw [if_pos hq]
    rw [beq_iff_eq.2 hq]
    simp only [Bool.not_true,cond_false]
    rw [qb (by omega)]
    simp [ea]
   ·have ea:attL l p own ats[i]=zO.mk ats[i].Prefix ats[i].Local (meansL ats[i].Prefix l p own) ats[i].Value:=by unfold attL;rw [if_neg hq]
    rw [beq_eq_false_iff_ne.2 hq]
    simp only [Bool.not_false,cond_true]
    rw [means_eq _ _ _ _ _ _ _ _ hp ho hl hown]
    simp only [Option.bind_some]
    rw [put_mid' _ _ _ _ rfl hti]
    simp only [Option.bind_some]
    rw [qb (by omega)]
    simp [ea]
  ·refine zg ?_;unfold qx
   have e:decide ((i:Int)<(ats.length:Int))=false:=by rw [decide_eq_false_iff_not];omega
   rw [List.drop_of_length_le (by omega),List.take_of_length_le (by omega),List.append_nil]
   simp only [e,cond_false]
def entL (pre loc full:Str)(empty:Bool)(ds:List za)(ats:List zO)(nb:Bool)(l:List ze)(p:List zv)(x:Str):Bool×List ze×List zv×Str:=
 ((puL 1 pre loc (meansL pre l p ds) [] ds (ats.map (attL l p ds)) nb l p x).1,(puL 1 pre loc (meansL pre l p ds) [] ds (ats.map (attL l p ds)) nb l p x).2.1,
  (bif empty then p else p++[zv.mk (((puL 1 pre loc (meansL pre l p ds) [] ds (ats.map (attL l p ds)) nb l p x).2.1.length:Int)-1) full]),(puL 1 pre loc (meansL pre l p ds) [] ds (ats.map (attL l p ds)) nb l p x).2.2)
theorem enter_eq (k a:Int)(hk:k=1)(pre loc uri full:Str)(empty:Bool)(ds:List za)(ats:List zO)(hp:p.length≤1073741824)(ho:PathOk l p)(hl:DsOk l)(hl2:l.length≤1073741823)(hx:x.length≤1073741824)(hown:ds.length<4611686018427387904)(ha:ats.length<4611686018427387904):
 qB k a pre loc uri [] full empty s b1 b2 l p x ds ats=some (entL pre loc full empty ds ats b1 l p x):=by
 subst hk
 unfold qB entL
 rw [means_eq _ _ _ _ _ _ _ _ (by omega) ho hl hown]
 simp only [Option.bind_some]
 have k:=att_loop b1 b2 l p x s ds ats (by omega) ho hl hown ha ats.length 0 (by omega) (by omega)
 rw [List.take_zero,List.map_nil,List.nil_append,List.drop_zero] at k
 rw [show iter (qx s b1 b2 l p x ds ats) (0,ats)=_ from k]
 simp only [Option.bind_some]
 rw [put3_eq _ _ _ _ _ _ _ _ _ _ _ _ _ _ (by omega) hl2 hx]
 simp only [Option.bind_some]
 have hlen:(puL 1 pre loc (meansL pre l p ds) [] ds (ats.map (attL l p ds)) b1 l p x).2.1.length≤l.length+2∧1≤(puL 1 pre loc (meansL pre l p ds) [] ds (ats.map (attL l p ds)) b1 l p x).2.1.length:=by
  have:=flL_len l p x b1
  unfold puL
  simp only [List.length_append,List.length_singleton];omega
 cases empty with
 |true=>rfl
 |false=>
  simp only [Bool.not_false,cond_true,cond_false]
  rw [Z3 (by simp;omega),qv (by omega)];rfl
def marL (s:Str)(ds:List za)(ats:List zO):Bool×Str×List za×List zO:=
 bif !(splitN (wrd s).1).2.2||(!(quo (wrd s).2).2.1|| !(ansE (valueL (quo (wrd s).2).1)).2) then (false,(quo (wrd s).2).2.2,ds,ats)
 else bif (splitN (wrd s).1).1==[120,109,108,110,115] then (true,(quo (wrd s).2).2.2,ds++[za.mk (splitN (wrd s).1).2.1 (ansE (valueL (quo (wrd s).2).1)).1],ats)
 else bif (splitN (wrd s).1).1==[]&&(splitN (wrd s).1).2.1==[120,109,108,110,115] then (true,(quo (wrd s).2).2.2,ds++[za.mk [] (ansE (valueL (quo (wrd s).2).1)).1],ats)
 else (true,(quo (wrd s).2).2.2,ds,ats++[zO.mk (splitN (wrd s).1).1 (splitN (wrd s).1).2.1 [] (ansE (valueL (quo (wrd s).2).1)).1])
theorem mark_eq (u7 u8:Int)(u9 u10 u11 u12:Str)(ds:List za)(ats:List zO)(hs:s.length<1073741823)(ht:textB s=true)(hd:ds.length≤1073741824)(ha:ats.length≤1073741824):qT s b1 b2 l p x u7 u8 u9 u10 u11 u12 ds ats=some (marL s ds ats):=by
 unfold qT marL
 have k1:=wrd_len s
 rw [word_eq2 _ _ _ _ _ s (by omega) ht]
 simp only [Option.bind_some]
 rw [Split_eq _ (by omega)]
 simp only [Option.bind_some]
 rw [quoted_eq _ _ _ _ _ _ (by omega)]
 simp only [Option.bind_some]
 have k2:=quo_len (wrd s).2
 rw [Value_eq _ (by omega)]
 simp only [Option.bind_some]
 have hq:((bif (!(splitN (wrd s).1).2.2) then some true else (bif (!(quo (wrd s).2).2.1) then some true else some (!(ansE (valueL (quo (wrd s).2).1)).2))):Option Bool)=some (!(splitN (wrd s).1).2.2||(!(quo (wrd s).2).2.1|| !(ansE (valueL (quo (wrd s).2).1)).2)):=by
  cases (splitN (wrd s).1).2.2<;>cases (quo (wrd s).2).2.1<;>rfl
 rw [hq]
 simp only [Option.bind_some]
 cases (!(splitN (wrd s).1).2.2||(!(quo (wrd s).2).2.1|| !(ansE (valueL (quo (wrd s).2).1)).2)) with
 |true=>rfl
 |false=>
  simp only [cond_false]
  rw [Z3 (by simp;omega),Z3 (by simp;omega),Z3 (by simp;omega)]
  simp only [Option.bind_some]
  cases (splitN (wrd s).1).1==[120,109,108,110,115] with
  |true=>rfl
  |false=>
   simp only [cond_false]
   cases (splitN (wrd s).1).1==[] with
   |false=>rfl
   |true=>
    simp only [cond_true,Option.bind_some,Bool.true_and]
    cases (splitN (wrd s).1).2.1==[120,109,108,110,115]<;>rfl
end
def okD (d:za):Prop:=d.Prefix.length≤1048576∧d.URI.length≤1048576
def okA (a:zO):Prop:=a.Prefix.length≤1048576∧a.Local.length≤1048576∧a.URI.length≤1048576∧a.Value.length≤1048576
def okN (x:ze):Prop:=x.Prefix.length≤1048576∧x.Local.length≤1048576∧x.URI.length≤1048576∧x.Text.length≤1048576∧x.Decls.length≤1048576∧x.Attrs.length≤1048576∧(∀ d∈x.Decls,okD d)∧(∀ a∈x.Attrs,okA a)
theorem lookD_len {q:Str}: ∀ {ds:List za} {u:Str},(∀ d∈ds,okD d)→lookD q ds=some u→u.length≤1048576
 |[],u,_,h=>by cases h
 |d::r,u,hd,h=>by
  unfold lookD at h
  split at h
  ·cases h;exact (hd d (by simp)).2
  ·exact lookD_len (fun e he=>hd e (by simp [he])) h
theorem upL_len {q:Str}{l:List ze}(hl: ∀ x∈l,okN x): ∀ {p:List zv} {u:Str},upL q l p=some u→u.length≤1048576
 |[],u,h=>by cases h
 |o::r,u,h=>by
  unfold upL at h
  split at h
  ·rename_i v hv
   cases h
   refine lookD_len ?_ hv;unfold declsAt
   cases hn:l[o.n.toNat]? with
   |none=>intro d hd;cases hd
   |some x=>exact (hl x (List.mem_of_getElem? hn)).2.2.2.2.2.2.1
  ·exact upL_len hl h
theorem meansL_len (q:Str){l:List ze}(p:List zv){own:List za}(hl: ∀ x∈l,okN x)(ho: ∀ d∈own,okD d):(meansL q l p own).length≤1048576:=by
 unfold meansL
 split
 ·decide
 ·split
  ·rename_i u hu;exact lookD_len ho hu
  ·cases h:upL q l p.reverse with
   |none=>exact Nat.zero_le _
   |some u=>exact upL_len hl h
theorem PathOk.grow {l l':List ze}{p:List zv}(h:PathOk l p)(hl:l.length≤l'.length):PathOk l' p:=fun o ho=>by
 have:=h o ho;omega
theorem ds_of_ok {l:List ze}(h: ∀ x∈l,okN x):DsOk l:=fun x hx=>by have:=(h x hx).2.2.2.2.1;omega
structure Inv (N:Nat) (s:Str) (l:List ze) (p:List zv) (x:Str):Prop where
 ht:textB s=true
 hl:l.length+2*s.length≤2*N+1
 h1:1≤l.length
 hp:p.length≤l.length
 ho:PathOk l p
 hn: ∀ y∈l,okN y
 hx:x.length+s.length≤N
theorem flL_ok {N:Nat}(hN:N≤1048576)(nb:Bool){l:List ze}(p:List zv){x:Str}(hn: ∀ y∈l,okN y)(hx:x.length≤N): ∀ y∈(flL nb l p x).2.1,okN y:=by
 unfold flL
 split
 ·exact hn
 ·intro y hy
  rcases List.mem_append.1 hy with h|h
  ·exact hn y h
  ·obtain rfl:=List.mem_singleton.1 h;exact ⟨Nat.zero_le _,Nat.zero_le _,Nat.zero_le _,by show x.length≤1048576;omega,Nat.zero_le _,Nat.zero_le _,by simp,by simp⟩
theorem puL_ok {N:Nat}(hN:N≤1048576)(kind:Int)(pre loc uri txt:Str)(ds:List za)(ats:List zO)(nb:Bool){l:List ze}(p:List zv){x:Str}(hn: ∀ y∈l,okN y)(hx:x.length≤N)(hy:okN (ze.mk kind (parL p) pre loc uri txt ds ats)):
 (∀ y∈(puL kind pre loc uri txt ds ats nb l p x).2.1,okN y)∧l.length+1≤(puL kind pre loc uri txt ds ats nb l p x).2.1.length∧(puL kind pre loc uri txt ds ats nb l p x).2.1.length≤l.length+2∧(puL kind pre loc uri txt ds ats nb l p x).2.2=[]:=by
 unfold puL
 have:=flL_len l p x nb
 refine ⟨?_,by simp only [List.length_append,List.length_singleton];omega,by simp only [List.length_append,List.length_singleton];omega,this.2.2⟩
 intro y hy'
 rcases List.mem_append.1 hy' with h|h
 ·exact flL_ok hN nb p hn hx y h
 ·obtain rfl:=List.mem_singleton.1 h;exact hy
theorem quo_lt {u:Str}(h:(quo u).2.1=true):(quo u).2.2.length+1≤u.length:=by
 unfold quo at h ⊢
 have k1:=J2 u
 cases h1:(cutP [61] (blk u).2).2 with
 |false=>rw [h1] at h;cases h
 |true=>
  rw [h1] at h
  simp only [cond_true] at h ⊢
  have e:=congrArg List.length (Je h1)
  simp only [List.length_append,List.length_singleton] at e
  have k3:=J2 (cutP [61] (blk u).2).1
  generalize (blk (cutP [61] (blk u).2).1).2=v at k3 h
  cases v with
  |nil=>cases h
  |cons c r=>
   simp only [List.length_cons] at k3
   dsimp only at h ⊢
   cases hc:c==39||c==34 with
   |false=>rw [hc] at h;cases h
   |true=>
    have:=untl_len [c] r
    simp only [cond_true];omega
theorem split_len (s:Str):(splitN s).1.length≤s.length∧(splitN s).2.1.length≤s.length:=by
 have h:=cut_len s [58]
 unfold splitN
 cases (cut s [58]).2.2 with
 |false=>
  simp only [cond_false]
  cases nameB s<;>simp
 |true=>
  simp only [cond_true]
  cases nameB (cut s [58]).1&&nameB (cut s [58]).2.1
  ·simp
  ·exact h
theorem ansV_len (s:Str):(ansE (valueL s)).1.length≤s.length:=by
 cases h:valueL s with
 |none=>exact Nat.zero_le _
 |some t=>exact valueL_len h
theorem marL_ok {s:Str}{ds:List za}{ats:List zO}(ht:textB s=true)(hs:s.length≤1048576)(hd: ∀ d∈ds,okD d)(ha: ∀ a∈ats,okA a)(h:(marL s ds ats).1=true):
 (marL s ds ats).2.1.length+1≤s.length∧textB (marL s ds ats).2.1=true∧(∀ d∈(marL s ds ats).2.2.1,okD d)∧(∀ a∈(marL s ds ats).2.2.2,okA a)∧(marL s ds ats).2.2.1.length≤ds.length+1∧(marL s ds ats).2.2.2.length≤ats.length+1:=by
 have k1:=wrd_len s
 have k2:=quo_len (wrd s).2
 have k3:=split_len (wrd s).1
 have k4:=ansV_len (quo (wrd s).2).1
 have k5:=(quo_text (wrd_text ht)).2
 unfold marL at h ⊢
 cases hb:(!(splitN (wrd s).1).2.2||(!(quo (wrd s).2).2.1|| !(ansE (valueL (quo (wrd s).2).1)).2)) with
 |true=>rw [hb] at h;cases h
 |false=>
  simp only [cond_false]
  simp only [Bool.or_eq_false_iff,Bool.not_eq_false'] at hb
  have k6:=quo_lt hb.2.1
  cases (splitN (wrd s).1).1==[120,109,108,110,115] with
  |true=>
   simp only [cond_true]
   refine ⟨by omega,k5,fun d hd'=> ?_,ha,by simp,Nat.le_succ _⟩
   rcases List.mem_append.1 hd' with h'|h'
   ·exact hd d h'
   ·obtain rfl:=List.mem_singleton.1 h';exact ⟨by show (splitN (wrd s).1).2.1.length≤1048576;omega,by show (ansE (valueL (quo (wrd s).2).1)).1.length≤1048576;omega⟩
  |false=>
   simp only [cond_false]
   cases (splitN (wrd s).1).1==[]&&(splitN (wrd s).1).2.1==[120,109,108,110,115] with
   |true=>
    simp only [cond_true]
    refine ⟨by omega,k5,fun d hd'=> ?_,ha,by simp,Nat.le_succ _⟩
    rcases List.mem_append.1 hd' with h'|h'
    ·exact hd d h'
    ·obtain rfl:=List.mem_singleton.1 h';exact ⟨Nat.zero_le _,by show (ansE (valueL (quo (wrd s).2).1)).1.length≤1048576;omega⟩
   |false=>
    simp only [cond_false]
    refine ⟨by omega,k5,hd,fun a ha'=> ?_,Nat.le_succ _,by simp⟩
    rcases List.mem_append.1 ha' with h'|h'
    ·exact ha a h'
    ·obtain rfl:=List.mem_singleton.1 h';exact ⟨by show (splitN (wrd s).1).1.length≤1048576;omega,by show (splitN (wrd s).1).2.1.length≤1048576;omega,Nat.zero_le _,by show (ansE (valueL (quo (wrd s).2).1)).1.length≤1048576;omega⟩
abbrev RSt:=Bool×Str×Bool×List ze×List zv×Str
def staF (full pre loc:Str)(nb:Bool)(l:List ze)(p:List zv)(x:Str):Nat→Str→List za→List zO→RSt
 |0,s,_,_=>(false,s,nb,l,p,x)
 |n+1,s,ds,ats=>
  bif (cutP [62] (blk s).2).2 then (true,(cutP [62] (blk s).2).1,entL pre loc full false ds ats nb l p x)
  else bif (cutP [47,62] (blk s).2).2 then (true,(cutP [47,62] (blk s).2).1,entL pre loc full true ds ats nb l p x)
  else bif !(blk s).1 then (false,(blk s).2,nb,l,p,x)
  else bif !(marL (blk s).2 ds ats).1 then (false,(marL (blk s).2 ds ats).2.1,nb,l,p,x)
  else staF full pre loc nb l p x n (marL (blk s).2 ds ats).2.1 (marL (blk s).2 ds ats).2.2.1 (marL (blk s).2 ds ats).2.2.2
theorem sta_loop (nb b2:Bool){l:List ze}{p:List zv}{x:Str}(v1:Str×Str)(v2:Str×Str×Bool)(ho:PathOk l p)(hn: ∀ y∈l,okN y)(hp:p.length≤1073741824)(hl2:l.length≤1073741823)(hx:x.length≤1073741824):
 ∀ (n:Nat) (s:Str) (ds:List za) (ats:List zO),s.length<n→s.length≤1048576→textB s=true→(∀ d∈ds,okD d)→(∀ a∈ats,okA a)→ds.length+s.length≤1048576→ats.length+s.length≤1048576→
  iter (qk nb b2 l p x v1 v2) (s,ds,ats)=some (staF v1.1 v2.1 v2.2.1 nb l p x n s ds ats)∧
  ((staF v1.1 v2.1 v2.2.1 nb l p x n s ds ats).1=true→ ∃ (s':Str) (e:Bool) (ds':List za) (ats':List zO),staF v1.1 v2.1 v2.2.1 nb l p x n s ds ats=(true,s',entL v2.1 v2.2.1 v1.1 e ds' ats' nb l p x)∧s'.length+1≤s.length∧textB s'=true∧(∀ d∈ds',okD d)∧(∀ a∈ats',okA a)∧ds'.length≤1048576∧ats'.length≤1048576):=by
 intro n
 induction n with
 |zero=>intro s ds ats h;omega
 |succ n ih=>
  intro s ds ats h hs ht hd ha hds has
  have k1:=J2 s
  have t1:=blk_text ht
  have hbl:zD s nb b2 l p x=some (blk s):=J4 _ _ _ _ _ _ (by omega)
  have hen: ∀ (e:Bool) (s':Str),qB 1 0 v2.1 v2.2.1 [] [] v1.1 e s' nb b2 l p x ds ats=some (entL v2.1 v2.2.1 v1.1 e ds ats nb l p x):=fun e s'=>enter_eq _ _ _ _ _ _ 1 0 rfl _ _ _ _ _ _ _ hp ho (ds_of_ok hn) hl2 hx (by omega) (by omega)
  unfold staF
  cases h1:(cutP [62] (blk s).2).2 with
  |true=>
   have e1:=congrArg List.length (Je h1)
   simp only [List.length_append,List.length_singleton] at e1
   refine ⟨zg ?_,fun _=>⟨(cutP [62] (blk s).2).1,false,ds,ats,rfl,by omega,Ja (by decide) t1,hd,ha,by omega,by omega⟩⟩;unfold qk
   simp only [hbl,Option.bind_some,Jo,h1,Bool.not_true,cond_false,cond_true,hen]
  |false=>
   have f1:=Jq h1
   simp only [cond_false]
   cases h2:(cutP [47,62] (blk s).2).2 with
   |true=>
    have e1:=congrArg List.length (Je h2)
    simp only [List.length_append,List.length_cons,List.length_nil] at e1
    refine ⟨zg ?_,fun _=>⟨(cutP [47,62] (blk s).2).1,true,ds,ats,rfl,by omega,Ja (by decide) t1,hd,ha,by omega,by omega⟩⟩;unfold qk
    simp only [hbl,Option.bind_some,Jo,h1,f1,h2,Bool.not_false,cond_false,cond_true,hen]
   |false=>
    have f2:=Jq h2
    simp only [cond_false]
    cases h3:(blk s).1 with
    |false=>
     refine ⟨zg ?_,fun h=>by cases h⟩;unfold qk
     simp only [hbl,Option.bind_some,Jo,h1,f1,h2,f2,h3,Bool.not_false,cond_false,cond_true]
    |true=>
     simp only [Bool.not_true,cond_false]
     have hm:qT (blk s).2 nb b2 l p x 1 0 v2.1 v2.2.1 [] [] ds ats=some (marL (blk s).2 ds ats):=mark_eq _ _ _ _ _ _ _ _ _ _ _ _ _ _ (by omega) t1 (by omega) (by omega)
     cases h4:(marL (blk s).2 ds ats).1 with
     |false=>
      refine ⟨zg ?_,fun h=>by cases h⟩;unfold qk
      simp only [hbl,Option.bind_some,Jo,h1,f1,h2,f2,h3,Bool.not_false,Bool.not_true,cond_false,cond_true,hm,h4]
     |true=>
      obtain ⟨m1,m2,m3,m4,m5,m6⟩:=marL_ok t1 (by omega) hd ha h4;obtain ⟨i1,i2⟩:=ih _ _ _ (by omega) (by omega) m2 m3 m4 (by omega) (by omega)
      simp only [Bool.not_true,cond_false]
      refine ⟨?_,fun h=> ?_⟩
      ·rw [←i1]
       refine zt ?_;unfold qk
       simp only [hbl,Option.bind_some,Jo,h1,f1,h2,f2,h3,Bool.not_false,Bool.not_true,cond_false,cond_true,hm,h4]
      ·obtain ⟨s',e,ds',ats',j1,j2,j3⟩:=i2 h;exact ⟨s',e,ds',ats',j1,by omega,j3⟩
def staL (s:Str)(nb:Bool)(l:List ze)(p:List zv)(x:Str):RSt:=
 bif !(splitN (wrd s).1).2.2 then (false,(wrd s).2,nb,l,p,x) else staF (wrd s).1 (splitN (wrd s).1).1 (splitN (wrd s).1).2.1 nb l p x ((wrd s).2.length+1) (wrd s).2 [] []
theorem entL_ok {N:Nat}(hN:N≤1048576){pre loc:Str}(full:Str)(e:Bool){ds:List za}{ats:List zO}(nb:Bool){l:List ze}{p:List zv}{x:Str}(hn: ∀ y∈l,okN y)(ho:PathOk l p)(hpl:p.length≤l.length)(hx:x.length≤N)(hpre:pre.length≤1048576)(hloc:loc.length≤1048576)(hd: ∀ d∈ds,okD d)(ha: ∀ a∈ats,okA a)(hds:ds.length≤1048576)(has:ats.length≤1048576):
 (∀ y∈(entL pre loc full e ds ats nb l p x).2.1,okN y)∧l.length+1≤(entL pre loc full e ds ats nb l p x).2.1.length∧(entL pre loc full e ds ats nb l p x).2.1.length≤l.length+2∧(entL pre loc full e ds ats nb l p x).2.2.2=[]∧PathOk (entL pre loc full e ds ats nb l p x).2.1 (entL pre loc full e ds ats nb l p x).2.2.1∧(entL pre loc full e ds ats nb l p x).2.2.1.length≤(entL pre loc full e ds ats nb l p x).2.1.length:=by
 have hnode:okN (ze.mk 1 (parL p) pre loc (meansL pre l p ds) [] ds (ats.map (attL l p ds))):=by
  refine ⟨hpre,hloc,meansL_len _ p hn hd,Nat.zero_le _,hds,by simpa using has,hd,fun a ha'=> ?_⟩;obtain ⟨b,hb,rfl⟩:=List.mem_map.1 ha';unfold attL
  split
  ·exact ha b hb
  ·have:=ha b hb
   exact ⟨this.1,this.2.1,meansL_len _ p hn hd,this.2.2.2⟩
 obtain ⟨q1,q2,q3,q4⟩:=puL_ok hN 1 pre loc (meansL pre l p ds) [] ds (ats.map (attL l p ds)) nb p hn hx hnode;unfold entL;refine ⟨q1,q2,q3,q4,?_,?_⟩
 ·cases e with
  |true=>exact ho.grow (Nat.le_trans (Nat.le_succ _) q2)
  |false=>
   intro o ho'
   rcases List.mem_append.1 ho' with h|h
   ·have:=ho o h;dsimp only;omega
   ·obtain rfl:=List.mem_singleton.1 h
    dsimp only;omega
 ·cases e with
  |true=>simp only [cond_true];omega
  |false=>simp only [cond_false,List.length_append,List.length_singleton];omega
theorem start_eq (nb b2:Bool){N:Nat}(hN:N≤1048576){s:Str}{l:List ze}{p:List zv}{x:Str}(hI:Inv N s l p x):ZR s nb b2 l p x=some (staL s nb l p x)∧
 ((staL s nb l p x).1=true→ ∃ (s':Str) (nb':Bool) (l':List ze) (p':List zv) (x':Str),staL s nb l p x=(true,s',nb',l',p',x')∧s'.length+1≤s.length∧textB s'=true∧(∀ y∈l',okN y)∧l.length≤l'.length∧l'.length≤l.length+2∧x'=[]∧PathOk l' p'∧p'.length≤l'.length):=by
 have hl:=hI.hl;have h1:=hI.h1;have hp:=hI.hp;have hx:=hI.hx
 have k1:=wrd_len s
 have k3:=split_len (wrd s).1
 unfold ZR staL
 rw [word_eq2 _ _ _ _ _ s (by omega) hI.ht]
 simp only [Option.bind_some]
 rw [Split_eq _ (by omega)]
 simp only [Option.bind_some]
 cases h2:(splitN (wrd s).1).2.2 with
 |false=>exact ⟨rfl,fun h=>by cases h⟩
 |true=>
  simp only [Bool.not_true,cond_false]
  obtain ⟨i1,i2⟩:=sta_loop nb b2 (l:=l) (p:=p) (x:=x) (wrd s) (splitN (wrd s).1) hI.ho hI.hn (by omega) (by omega) (by omega) ((wrd s).2.length+1) (wrd s).2 [] [] (by omega) (by omega) (wrd_text hI.ht) (by simp) (by simp) (by simp;omega) (by simp;omega);refine ⟨by rw [i1];rfl,fun h=> ?_⟩;obtain ⟨s',e,ds',ats',j1,j2,j3,j4,j5,j6,j7⟩:=i2 h;obtain ⟨e1,e2,e3,e4,e5,e6⟩:=entL_ok hN (wrd s).1 e nb (l:=l) (p:=p) (x:=x) (ds:=ds') (ats:=ats') (pre:=(splitN (wrd s).1).1) (loc:=(splitN (wrd s).1).2.1) hI.hn hI.ho hp (by omega) (by omega) (by omega) j4 j5 j6 j7;exact ⟨s',_,_,_,_,j1,by omega,j3,e1,Nat.le_trans (Nat.le_succ _) e2,e3,e4,e5,e6⟩
open Go.Lib (decodeL decodeN validD index cut contains replaceK replaceAll)
abbrev cdata:Str:=[60,33,91,67,68,65,84,65,91]
def stepL (s:Str)(nb:Bool)(l:List ze)(p:List zv)(x:Str):RSt:=
 bif (cutP [60,33,45,45] s).2 then
  ((untl [45,45,62] (cutP [60,33,45,45] s).1).2.1,(untl [45,45,62] (cutP [60,33,45,45] s).1).2.2,
   (puL 3 [] [] [] (untl [45,45,62] (cutP [60,33,45,45] s).1).1 [] [] nb l p x).1,(puL 3 [] [] [] (untl [45,45,62] (cutP [60,33,45,45] s).1).1 [] [] nb l p x).2.1,p,(puL 3 [] [] [] (untl [45,45,62] (cutP [60,33,45,45] s).1).1 [] [] nb l p x).2.2)
 else bif decide (p≠[])&&(cutP cdata s).2 then
  ((untl [93,93,62] (cutP cdata s).1).2.1,(untl [93,93,62] (cutP cdata s).1).2.2,false,l,p,x++(untl [93,93,62] (cutP cdata s).1).1)
 else bif (cutP [60,63] s).2 then
  ((insL (cutP [60,63] s).1 nb l p x).1,(insL (cutP [60,63] s).1 nb l p x).2.1,(insL (cutP [60,63] s).1 nb l p x).2.2.1,(insL (cutP [60,63] s).1 nb l p x).2.2.2.1,p,(insL (cutP [60,63] s).1 nb l p x).2.2.2.2)
 else bif (cutP [60,47] s).2 then finL (cutP [60,47] s).1 nb l p x
 else bif (cutP [60] s).2 then staL (cutP [60] s).1 nb l p x
 else ((betL s nb p x).1,(betL s nb p x).2.1,(betL s nb p x).2.2.1,l,p,(betL s nb p x).2.2.2)
theorem Inv.cutP {N:Nat}{s:Str}{l:List ze}{p:List zv}{x:Str}(h:Inv N s l p x){q:Str}(hq: ∀ b∈q,b.toNat<128):Inv N (cutP q s).1 l p x:=by
 have k:=JC q s
 have h1:=h.hl;have h2:=h.hx
 exact ⟨Ja hq h.ht,by omega,h.h1,h.hp,h.ho,h.hn,by omega⟩
theorem step_ok (nb:Bool){N:Nat}(hN:N≤1048576){s:Str}{l:List ze}{p:List zv}{x:Str}(hI:Inv N s l p x)(hs:s≠[]):Z2 s nb false l p x=some (stepL s nb l p x)∧
 ((stepL s nb l p x).1=true→ ∃ (s':Str) (nb':Bool) (l':List ze) (p':List zv) (x':Str),stepL s nb l p x=(true,s',nb',l',p',x')∧Inv N s' l' p' x'∧s'.length<s.length):=by
 have hl:=hI.hl;have h1:=hI.h1;have hp:=hI.hp;have hx:=hI.hx;have ht:=hI.ht
 unfold Z2 stepL
 rw [Jo]
 simp only [Option.bind_some]
 cases c1:(cutP [60,33,45,45] s).2 with
 |true=>
  have e1:=congrArg List.length (Je c1)
  simp only [List.length_append,List.length_cons,List.length_nil] at e1
  have t1:=Ja (q:=[60,33,45,45]) (by decide) ht
  have u1:=untl_len [45,45,62] (cutP [60,33,45,45] s).1
  obtain ⟨u2,u3⟩:=untl_text (q:=[45,45,62]) (by decide) (by simp) t1
  simp only [cond_true]
  rw [until_eq _ _ _ _ _ _ _ (by omega)]
  simp only [Option.bind_some]
  rw [put1_eq _ _ _ _ _ _ _ _ _ _ _ _ (by omega) (by omega) (by omega)]
  refine ⟨rfl,fun h=> ?_⟩;obtain ⟨q1,q2,q3,q4⟩:=puL_ok hN 3 [] [] [] (untl [45,45,62] (cutP [60,33,45,45] s).1).1 [] [] nb (l:=l) (x:=x) p hI.hn (by omega) ⟨Nat.zero_le _,Nat.zero_le _,Nat.zero_le _,by dsimp only;omega,Nat.zero_le _,Nat.zero_le _,by simp,by simp⟩;refine ⟨_,_,_,_,_,Prod.ext h rfl,⟨u3,by omega,by omega,by omega,hI.ho.grow (Nat.le_trans (Nat.le_succ _) q2),q1,by rw [q4];simp;omega⟩,by omega⟩
 |false=>
  have f1:=Jq c1
  simp only [cond_false,f1]
  have hq:((bif decide ((p.length:Int)>0) then (zA cdata s nb false l p x).bind fun v4=>some (v4.1,v4.2) else some (false,s)):Option (Bool×Str))=some (decide (p≠[])&&(cutP cdata s).2,bif decide (p≠[])&&(cutP cdata s).2 then (cutP cdata s).1 else s):=by
   by_cases hp0:p=[]
   ·subst hp0;rfl
   ·have:0<p.length:=List.length_pos_iff.2 hp0
    rw [show decide ((p.length:Int)>0)=true by rw [decide_eq_true_eq];omega,show decide (p≠[])=true by simpa using hp0,Jo]
    simp only [cond_true,Option.bind_some,Bool.true_and]
    cases c:(cutP cdata s).2 with
    |true=>rfl
    |false=>rw [Jq c];rfl
  rw [hq]
  simp only [Option.bind_some]
  cases c2:decide (p≠[])&&(cutP cdata s).2 with
  |true=>
   simp only [cond_true]
   rw [Bool.and_eq_true] at c2
   have e1:=congrArg List.length (Je c2.2)
   simp only [List.length_append,List.length_cons,List.length_nil] at e1
   have t1:=Ja (q:=cdata) (by decide) ht
   have u1:=untl_len [93,93,62] (cutP cdata s).1
   obtain ⟨u2,u3⟩:=untl_text (q:=[93,93,62]) (by decide) (by simp) t1
   rw [until_eq _ _ _ _ _ _ _ (by omega)]
   simp only [Option.bind_some]
   rw [writeR_eq _ _ _ _ _ _ _ (by omega)]
   refine ⟨rfl,fun h=> ?_⟩
   have hsum:(untl [93,93,62] (cutP cdata s).1).1.length+(untl [93,93,62] (cutP cdata s).1).2.2.length≤(cutP cdata s).1.length:=by
    unfold untl at h ⊢
    dsimp only at h ⊢
    have:=congrArg List.length (cut_true h)
    simp only [List.length_append] at this
    rw [h]
    simp only [cond_true];omega
   exact ⟨_,_,_,_,_,Prod.ext h rfl,⟨u3,by omega,h1,hp,hI.ho,hI.hn,by simp only [List.length_append];omega⟩,by omega⟩
  |false=>
   simp only [cond_false]
   rw [Jo]
   simp only [Option.bind_some]
   cases c3:(cutP [60,63] s).2 with
   |true=>
    have e1:=congrArg List.length (Je c3)
    simp only [List.length_append,List.length_cons,List.length_nil] at e1
    have t1:=Ja (q:=[60,63]) (by decide) ht
    simp only [cond_true]
    rw [instruction_eq _ _ _ _ _ _ (by omega) t1 (by omega) (by omega) (by omega)]
    refine ⟨rfl,fun h=> ?_⟩
    generalize (cutP [60,63] s).1=v at e1 t1 h ⊢
    have k1:=wrd_len v
    have k2:=J2 (wrd v).2
    have u1:=untl_len [63,62] (blk (wrd v).2).2
    obtain ⟨u2,u3⟩:=untl_text (q:=[63,62]) (by decide) (by simp) (blk_text (wrd_text t1));unfold insL at h ⊢
    cases d1:(!(untl [63,62] (blk (wrd v).2).2).2.1) with
    |true=>rw [d1] at h;cases h
    |false=>
     rw [d1] at h
     simp only [cond_false] at h ⊢
     cases d2:(!(blk (wrd v).2).1&& !((untl [63,62] (blk (wrd v).2).2).1==[])) with
     |true=>rw [d2] at h;cases h
     |false=>
      simp only [cond_false]
      obtain ⟨q1,q2,q3,q4⟩:=puL_ok hN 4 [] (wrd v).1 [] (untl [63,62] (blk (wrd v).2).2).1 [] [] nb (l:=l) (x:=x) p hI.hn (by omega) ⟨Nat.zero_le _,by dsimp only;omega,Nat.zero_le _,by dsimp only;omega,Nat.zero_le _,Nat.zero_le _,by simp,by simp⟩;exact ⟨_,_,_,_,_,rfl,⟨u3,by omega,by omega,by omega,hI.ho.grow (Nat.le_trans (Nat.le_succ _) q2),q1,by rw [q4];simp;omega⟩,by omega⟩
   |false=>
    have f3:=Jq c3
    simp only [cond_false,f3]
    rw [Jo]
    simp only [Option.bind_some]
    cases c4:(cutP [60,47] s).2 with
    |true=>
     have e1:=congrArg List.length (Je c4)
     simp only [List.length_append,List.length_cons,List.length_nil] at e1
     have t1:=Ja (q:=[60,47]) (by decide) ht
     simp only [cond_true]
     rw [finish_eq _ _ _ _ _ _ (by omega) t1 (by omega) (by omega) (by omega)]
     refine ⟨rfl,fun h=> ?_⟩
     generalize (cutP [60,47] s).1=v at e1 t1 h ⊢
     have k1:=wrd_len v
     have k2:=J2 (wrd v).2
     have k3:=JC [62] (blk (wrd v).2).2
     have t2:=Ja (q:=[62]) (by decide) (blk_text (wrd_text t1))
     unfold finL at h ⊢
     cases hg:p.getLast? with
     |none=>rw [hg] at h;cases h
     |some o=>
      rw [hg] at h
      dsimp only at h ⊢
      cases d1:(!((wrd v).1==o.name)) with
      |true=>rw [d1] at h;cases h
      |false=>
       rw [d1] at h
       simp only [cond_false] at h ⊢
       cases d2:(!(cutP [62] (blk (wrd v).2).2).2) with
       |true=>rw [d2] at h;cases h
       |false=>
        simp only [cond_false]
        have q:=flL_len l p x nb
        have hd:=List.length_dropLast (xs:=p)
        have q1:=flL_ok hN nb p hI.hn (x:=x) (by omega)
        refine ⟨_,_,_,_,_,rfl,⟨t2,by omega,by omega,by omega,fun o' ho'=> ?_,q1,by rw [q.2.2];simp;omega⟩,by omega⟩
        have:=hI.ho o' (List.dropLast_subset _ ho')
        have:=q.2.1
        omega
    |false=>
     have f4:=Jq c4
     simp only [cond_false,f4]
     rw [Jo]
     simp only [Option.bind_some]
     cases c5:(cutP [60] s).2 with
     |true=>
      have e1:=congrArg List.length (Je c5)
      simp only [List.length_append,List.length_singleton] at e1
      simp only [cond_true]
      obtain ⟨i1,i2⟩:=start_eq nb false hN (hI.cutP (q:=[60]) (by decide))
      rw [i1]
      refine ⟨rfl,fun h=> ?_⟩;obtain ⟨s',nb',l',p',x',j1,j2,j3,j4,j5,j6,j7,j8,j9⟩:=i2 h;exact ⟨s',nb',l',p',x',j1,⟨j3,by omega,by omega,j9,j8,j4,by rw [j7];simp;omega⟩,by omega⟩
     |false=>
      have f5:=Jq c5
      simp only [cond_false,f5]
      rw [between_eq _ _ _ _ _ _ (by omega) (by omega) (by omega)]
      refine ⟨rfl,fun h=> ?_⟩
      have hr:=raw_len s
      have hne:(rawL s).length≠0:=by
       cases s with
       |nil=>exact absurd rfl hs
       |cons c r=>
        cases hc:c==60 with
        |true=>
         have:c=60:=by simpa using hc
         subst this
         unfold G.cutP at c5
         simp at c5
        |false=>
         unfold rawL
         rw [List.takeWhile_cons_of_pos (by simp [hc])]
         simp
      have trest:textB (restL s)=true:=by
       have e:=raw_rest s
       cases hrs:restL s with
       |nil=>rfl
       |cons c r=>
        rw [hrs] at e
        have hc:c=60:=by
         have:(restL s).head? =some c:=by rw [hrs];rfl
         unfold restL at this
         have hh:=List.head?_dropWhile_not (fun b=> !(b==60)) s
         rw [this] at hh
         simpa using hh
        rw [←e] at ht
        exact (textB_split (rawL s).length (rawL s) c r (Nat.le_refl _) (by rw [hc];decide) ht).2
      have ha:=ansE_len (rawL s)
      unfold betL at h ⊢
      by_cases hp0:p=[]
      ·rw [if_pos hp0] at h ⊢
       exact ⟨restL s,nb,l,p,x,Prod.ext h rfl,⟨trest,by omega,h1,hp,hI.ho,hI.hn,by omega⟩,by omega⟩
      ·rw [if_neg hp0] at h ⊢
       exact ⟨restL s,false,l,p,x++(ansE (contentL (rawL s))).1,Prod.ext h rfl,⟨trest,by omega,h1,hp,hI.ho,hI.hn,by simp only [List.length_append];omega⟩,by omega⟩
def runL:Nat→Str→Bool→List ze→List zv→Str→Option (Str×Bool×List ze×List zv×Str)
 |0,_,_,_,_,_=>none
 |n+1,s,nb,l,p,x=>if s=[] then some (s,nb,l,p,x) else bif (stepL s nb l p x).1 then runL n (stepL s nb l p x).2.1 (stepL s nb l p x).2.2.1 (stepL s nb l p x).2.2.2.1 (stepL s nb l p x).2.2.2.2.1 (stepL s nb l p x).2.2.2.2.2 else none
theorem run_loop {N:Nat}(hN:N≤1048576): ∀ (n:Nat) (s:Str) (nb:Bool) (l:List ze) (p:List zv) (x:Str),s.length<n→Inv N s l p x→
 iter JU (s,nb,l,p,x)=some (match runL n s nb l p x with|none=> .inl ()|some q=> .inr q)∧(∀ q,runL n s nb l p x=some q→ ∃ nb' l' p' x',q=([],nb',l',p',x')∧Inv N [] l' p' x'):=by
 intro n
 induction n with
 |zero=>intro s nb l p x h;omega
 |succ n ih=>
  intro s nb l p x h hI
  unfold runL
  by_cases hs:s=[]
  ·subst hs
   rw [if_pos rfl]
   refine ⟨zg ?_,fun q hq=>⟨nb,l,p,x,(Option.some.inj hq).symm,hI⟩⟩
   rfl
  ·rw [if_neg hs]
   obtain ⟨i1,i2⟩:=step_ok nb hN hI hs
   have e:(!(s==[]))=true:=by simp [hs]
   cases h1:(stepL s nb l p x).1 with
   |false=>
    refine ⟨zg ?_,fun q hq=>by cases hq⟩;unfold JU
    simp only [e,cond_true,i1,Option.bind_some,h1,Bool.not_false];rfl
   |true=>
    obtain ⟨s',nb',l',p',x',j1,j2,j3⟩:=i2 h1;obtain ⟨k1,k2⟩:=ih s' nb' l' p' x' (by omega) j2
    rw [j1] at i1 ⊢
    simp only [cond_true]
    refine ⟨?_,k2⟩
    rw [←k1]
    refine zt ?_;unfold JU
    simp only [e,cond_true,i1,Option.bind_some,Bool.not_true,cond_false]
def bareB (x:ze):Bool:=x.Prefix==[]&&(x.URI==[]&&((x.Decls.length:Int)==0&&(x.Attrs.length:Int)==0))
theorem bare_eq (x:ze):doc_bare x=some (bareB x):=by
 unfold doc_bare bareB
 cases x.Prefix==[]<;>cases x.URI==[]<;>cases (x.Decls.length:Int)==0<;>rfl
def prefB (s:Str):Bool:=s==[]||nameB s
theorem prefix_eq (s:Str)(h:s.length≤1048576):JS s=some (prefB s):=by
 unfold JS prefB
 rw [Is_eq s (by omega)]
 cases s==[]<;>rfl
theorem dtext_eq (s:Str)(h:s.length≤1048576):JF s=some (textB s):=by
 unfold JF
 rw [Text_eq s (by omega)];rfl
theorem idxD_loop (s:List za)(f:za→Option Bool)(g:za→Bool)(hf: ∀ d,f d=some (g d))(hs:s.length<4611686018427387904): ∀ (n i:Nat),s.length-i≤n→i≤s.length→ ∃ v,iter (qo s f) (i:Int)=some v∧(match v with| .inl k=>(s.drop i).any g=true∧0≤k| .inr _=>(s.drop i).any g=false):=by
 intro n
 induction n with
 |zero=>
  intro i h1 h2
  refine ⟨.inr (),zg ?_,by rw [List.drop_of_length_le (by omega)];rfl⟩;unfold qo
  have e:decide ((i:Int)<(s.length:Int))=false:=by rw [decide_eq_false_iff_not];omega
  simp only [e,cond_false]
 |succ n ih=>
  intro i h1 h2
  by_cases hi:i<s.length
  ·have e:decide ((i:Int)<(s.length:Int))=true:=by rw [decide_eq_true_eq];omega
   rw [List.drop_eq_getElem_cons hi,List.any_cons]
   cases hg:g s[i] with
   |true=>
    refine ⟨.inl (i:Int),zg ?_,⟨rfl,by omega⟩⟩;unfold qo
    simp only [e,cond_true]
    rw [z7 hi]
    simp only [Option.bind_some,hf,hg,cond_true]
   |false=>
    obtain ⟨v,k1,k2⟩:=ih (i+1) (by omega) (by omega);refine ⟨v,?_,by rw [Bool.false_or];exact k2⟩
    rw [←k1]
    refine zt ?_;unfold qo
    simp only [e,cond_true]
    rw [z7 hi]
    simp only [Option.bind_some,hf,hg,cond_false]
    rw [qb (by omega)]
  ·refine ⟨.inr (),zg ?_,by rw [List.drop_of_length_le (by omega)];rfl⟩;unfold qo
   have e:decide ((i:Int)<(s.length:Int))=false:=by rw [decide_eq_false_iff_not];omega
   simp only [e,cond_false]
theorem containsD_eq (s:List za)(f:za→Option Bool)(g:za→Bool)(hf: ∀ d,f d=some (g d))(hs:s.length<4611686018427387904):Zj s f=some (s.any g):=by
 unfold Zj QF;obtain ⟨v,k1,k2⟩:=idxD_loop s f g hf hs s.length 0 (by omega) (by omega)
 rw [List.drop_zero] at k2
 rw [show iter (qo s f) 0=_ from k1]
 cases v with
 |inl k=>
  dsimp only at k2
  rw [k2.1]
  simp only [Option.bind_some,Sum.elim_inl]
  rw [show decide (k≥0)=true by rw [decide_eq_true_eq];exact k2.2]
 |inr u=>dsimp only at k2;rw [k2];rfl
theorem idxA_loop (s:List zO)(f:zO→Option Bool)(g:zO→Bool)(hf: ∀ d,f d=some (g d))(hs:s.length<4611686018427387904): ∀ (n i:Nat),s.length-i≤n→i≤s.length→ ∃ v,iter (qn s f) (i:Int)=some v∧(match v with| .inl k=>(s.drop i).any g=true∧0≤k| .inr _=>(s.drop i).any g=false):=by
 intro n
 induction n with
 |zero=>
  intro i h1 h2
  refine ⟨.inr (),zg ?_,by rw [List.drop_of_length_le (by omega)];rfl⟩;unfold qn
  have e:decide ((i:Int)<(s.length:Int))=false:=by rw [decide_eq_false_iff_not];omega
  simp only [e,cond_false]
 |succ n ih=>
  intro i h1 h2
  by_cases hi:i<s.length
  ·have e:decide ((i:Int)<(s.length:Int))=true:=by rw [decide_eq_true_eq];omega
   rw [List.drop_eq_getElem_cons hi,List.any_cons]
   cases hg:g s[i] with
   |true=>
    refine ⟨.inl (i:Int),zg ?_,⟨rfl,by omega⟩⟩;unfold qn
    simp only [e,cond_true]
    rw [z7 hi]
    simp only [Option.bind_some,hf,hg,cond_true]
   |false=>
    obtain ⟨v,k1,k2⟩:=ih (i+1) (by omega) (by omega);refine ⟨v,?_,by rw [Bool.false_or];exact k2⟩
    rw [←k1]
    refine zt ?_;unfold qn
    simp only [e,cond_true]
    rw [z7 hi]
    simp only [Option.bind_some,hf,hg,cond_false]
    rw [qb (by omega)]
  ·refine ⟨.inr (),zg ?_,by rw [List.drop_of_length_le (by omega)];rfl⟩;unfold qn
   have e:decide ((i:Int)<(s.length:Int))=false:=by rw [decide_eq_false_iff_not];omega
   simp only [e,cond_false]
theorem containsA_eq (s:List zO)(f:zO→Option Bool)(g:zO→Bool)(hf: ∀ d,f d=some (g d))(hs:s.length<4611686018427387904):qK s f=some (s.any g):=by
 unfold qK QE;obtain ⟨v,k1,k2⟩:=idxA_loop s f g hf hs s.length 0 (by omega) (by omega)
 rw [List.drop_zero] at k2
 rw [show iter (qn s f) 0=_ from k1]
 cases v with
 |inl k=>
  dsimp only at k2
  rw [k2.1]
  simp only [Option.bind_some,Sum.elim_inl]
  rw [show decide (k≥0)=true by rw [decide_eq_true_eq];exact k2.2]
 |inr u=>dsimp only at k2;rw [k2];rfl
def xmlnsURI:Str:=[104,116,116,112,58,47,47,119,119,119,46,119,51,46,111,114,103,47,50,48,48,48,47,120,109,108,110,115,47]
abbrev xmlnsP:Str:=[120,109,108,110,115]
abbrev xmlP:Str:=[120,109,108]
def badD (pre:List za)(d:za):Bool:=pre.any (fun o=>o.Prefix==d.Prefix)||(!prefB d.Prefix||(d.Prefix==xmlnsP||(!textB d.URI||((d.URI==[]&& !(d.Prefix==[]))||(!((d.Prefix==xmlP)==(d.URI==xmlURI))||d.URI==xmlnsURI)))))
theorem declared_step (l:List za)(hl:l.length≤1048576)(hd: ∀ d∈l,okD d)(i:Nat)(hi:i<l.length):Qd l (i:Int)=some (bif badD (l.take i) l[i] then .inr (.inl ()) else .inl ((i+1:Nat):Int)):=by
 unfold Qd badD
 have e:decide ((i:Int)<(l.length:Int))=true:=by rw [decide_eq_true_eq];omega
 have hk:=hd l[i] (List.getElem_mem hi)
 simp only [e,cond_true]
 rw [z7 hi]
 simp only [Option.bind_some]
 rw [QQ (by omega)]
 simp only [Option.bind_some]
 rw [containsD_eq _ (fun x0=>zai x0 l[i]) (fun o=>o.Prefix==l[i].Prefix) (fun d=>rfl) (by simp;omega)]
 simp only [Option.bind_some]
 rw [prefix_eq _ hk.1,dtext_eq _ hk.2,qb (by omega)]
 simp only [Option.bind_some]
 cases (l.take i).any (fun o=>o.Prefix==l[i].Prefix) with
 |true=>rfl
 |false=>
  cases prefB l[i].Prefix with
  |false=>rfl
  |true=>
   cases l[i].Prefix==xmlnsP with
   |true=>rfl
   |false=>
    cases textB l[i].URI with
    |false=>rfl
    |true=>
     show (bif l[i].URI==[] then _ else _)=_
     cases l[i].URI==[] with
     |false=>
      show (bif (!((l[i].Prefix==xmlP)==(l[i].URI==xmlURI))) then _ else (bif l[i].URI==xmlnsURI then _ else _))=_
      cases (l[i].Prefix==xmlP)==(l[i].URI==xmlURI)<;>cases l[i].URI==xmlnsURI<;>rfl
     |true=>
      show (bif !(l[i].Prefix==[]) then _ else (bif (!((l[i].Prefix==xmlP)==(l[i].URI==xmlURI))) then _ else (bif l[i].URI==xmlnsURI then _ else _)))=_
      cases l[i].Prefix==[]<;>cases (l[i].Prefix==xmlP)==(l[i].URI==xmlURI)<;>cases l[i].URI==xmlnsURI<;>rfl
theorem bad_loop {τ:Type}(f:Int→Option (Int⊕(Unit⊕Unit)))(N:Nat)(bad:Nat→Bool)(hs: ∀ i,i<N→f (i:Int)=some (bif bad i then .inr (.inl ()) else .inl ((i+1:Nat):Int)))(he:f (N:Int)=some (.inr (.inr ()))): ∀ (n i:Nat),N-i≤n→i≤N→iter f (i:Int)=some (bif (List.range' i (N-i)).any bad then .inl () else .inr ()):=by
 intro n
 induction n with
 |zero=>
  intro i h1 h2
  obtain rfl:i=N:=by omega
  rw [Nat.sub_self]
  exact zg he
 |succ n ih=>
  intro i h1 h2
  by_cases hi:i<N
  ·rw [show N-i=(N-(i+1))+1 by omega,List.range'_succ,List.any_cons]
   have h:=hs i hi
   cases hb:bad i with
   |true=>rw [hb] at h;exact zg h
   |false=>
    rw [hb] at h
    rw [zt h,Bool.false_or]
    exact ih (i+1) (by omega) (by omega)
  ·obtain rfl:i=N:=by omega
   rw [Nat.sub_self]
   exact zg he
def getDecl (l:List za)(i:Nat):za:=l[i]?.getD (za.mk [] [])
def declaredB (l:List za):Bool:= !(List.range' 0 l.length).any fun i=>badD (l.take i) (getDecl l i)
theorem declared_eq (l:List za)(hl:l.length≤1048576)(hd: ∀ d∈l,okD d):doc_declared l=some (declaredB l):=by
 unfold doc_declared declaredB
 have k:=bad_loop (τ:=Unit) (Qd l) l.length (fun i=>badD (l.take i) (getDecl l i)) (fun i hi=>by
  rw [declared_step l hl hd i hi]
  unfold getDecl
  rw [List.getElem?_eq_getElem hi];rfl) (by
  unfold Qd
  have e:decide ((l.length:Int)<(l.length:Int))=false:=by simp
  simp only [e,cond_false]) l.length 0 (by omega) (by omega)
 rw [Nat.sub_zero] at k
 rw [show iter (Qd l) 0=_ from k]
 cases (List.range' 0 l.length).any fun i=>badD (l.take i) (getDecl l i)<;>rfl
def ParOk (l:List ze)(n:Nat):Prop:= ∀ m x,0<m→m<n→l[m]? =some x→0≤x.Parent∧x.Parent<(m:Int)
def upD (l:List ze)(q:Str):Nat→Nat→Option Str
 |0,_=>none
 |k+1,n=>if n=0 then none else match l[n]? with
  |none=>none
  |some x=>match lookD q x.Decls with
   |some u=>some u
   |none=>upD l q k x.Parent.toNat
def dmeans (l:List ze)(n:Nat)(q:Str):Str×Bool:=if q=xmlP then (xmlURI,true) else match upD l q (n+1) n with
 |some u=>(u,true)
 |none=>([],q==[])
theorem dmeans_loop (l:List ze)(q:Str)(hds:DsOk l): ∀ (k n:Nat),n<k→n<l.length→ParOk l (n+1)→iter (doc_means_b1 l q) (n:Int)=some (match upD l q k n with|some u=> .inl u|none=> .inr ()):=by
 intro k
 induction k with
 |zero=>intro n h;omega
 |succ k ih=>
  intro n h hn hp
  unfold upD
  by_cases h0:n=0
  ·subst h0
   rw [if_pos rfl]
   exact zg rfl
  ·rw [if_neg h0,List.getElem?_eq_getElem hn]
   dsimp only
   have e:decide ((n:Int)>0)=true:=by rw [decide_eq_true_eq];omega
   obtain ⟨p0,p1⟩:=hp n l[n] (by omega) (by omega) (List.getElem?_eq_getElem hn)
   have hlk:iter (doc_means_b2 q l[n]) 0=some (match lookD q l[n].Decls with|some u=> .inl u|none=> .inr ()):=look_all q l[n].Decls (hds _ (List.getElem_mem hn))
   cases hh:lookD q l[n].Decls with
   |some u=>
    refine zg ?_;unfold doc_means_b1
    simp only [e,cond_true]
    rw [z7 hn]
    simp only [Option.bind_some,hlk,hh,Sum.elim_inl]
   |none=>
    dsimp only
    have hpn:((l[n].Parent.toNat:Nat):Int)=l[n].Parent:=by omega
    rw [←ih l[n].Parent.toNat (by omega) (by omega) (fun m x h1 h2 h3=>hp m x h1 (by omega) h3),hpn]
    refine zt ?_;unfold doc_means_b1
    simp only [e,cond_true]
    rw [z7 hn]
    simp only [Option.bind_some,hlk,hh,Sum.elim_inr]
theorem dmeans_eq (l:List ze)(n:Nat)(q:Str)(hds:DsOk l)(hn:n<l.length)(hp:ParOk l (n+1)):doc_means l (n:Int) q=some (dmeans l n q):=by
 unfold doc_means dmeans
 by_cases hq:q=xmlP
 ·rw [if_pos hq,beq_iff_eq.2 hq];rfl
 ·rw [if_neg hq,beq_eq_false_iff_ne.2 hq]
  simp only [cond_false]
  rw [dmeans_loop l q hds (n+1) n (by omega) hn hp]
  cases upD l q (n+1) n<;>rfl
def badA (l:List ze)(n:Nat)(pre:List zO)(a:zO):Bool:=
 pre.any (fun o=>bif o.Local==a.Local then o.URI==a.URI else false)||(!(dmeans l n a.Prefix).2||(!((bif a.Prefix==[] then [] else (dmeans l n a.Prefix).1)==a.URI)||(!nameB a.Local||(!prefB a.Prefix||(a.Prefix==xmlnsP||((a.Prefix==[]&&a.Local==xmlnsP)|| !textB a.Value))))))
theorem named_step (l:List ze)(n:Nat)(x:ze)(hds:DsOk l)(hn:n<l.length)(hp:ParOk l (n+1))(hx:okN x)(i:Nat)(hi:i<x.Attrs.length):Jp l (n:Int) x (i:Int)=some (bif badA l n (x.Attrs.take i) x.Attrs[i] then .inr (.inl ()) else .inl ((i+1:Nat):Int)):=by
 unfold Jp badA
 have e:decide ((i:Int)<(x.Attrs.length:Int))=true:=by rw [decide_eq_true_eq];omega
 have hk:=hx.2.2.2.2.2.2.2 x.Attrs[i] (List.getElem_mem hi)
 have hal:=hx.2.2.2.2.2.1
 have hpre:=prefix_eq x.Attrs[i].Prefix hk.1
 have hloc:=Is_eq x.Attrs[i].Local (by have:=hk.2.1;omega)
 have htx:=dtext_eq x.Attrs[i].Value hk.2.2.2
 have hca:=containsA_eq (x.Attrs.take i) (fun x0=>J8 x0 x.Attrs[i]) (fun o=>bif o.Local==x.Attrs[i].Local then o.URI==x.Attrs[i].URI else false) (fun d=>by unfold J8;cases d.Local==x.Attrs[i].Local<;>rfl) (by simp;omega)
 have hsub:sub' x.Attrs 0 (i:Int)=some (x.Attrs.take i):=QQ (by omega)
 have hw:w64 ((i:Int)+1)=((i+1:Nat):Int):=qb (by omega)
 have hdm:=dmeans_eq l n x.Attrs[i].Prefix hds hn hp
 simp only [e,cond_true]
 rw [z7 hi]
 generalize x.Attrs[i]=a at*
 simp only [Option.bind_some,hdm,hsub,hca,hloc,hpre,htx,hw]
 generalize (x.Attrs.take i).any (fun o=>bif o.Local==a.Local then o.URI==a.URI else false)=c1
 generalize dmeans l n a.Prefix=dm
 cases h0:a.Prefix==[] with
 |true=>
  simp only [cond_true,Bool.true_and]
  cases c1<;>cases dm.2<;>cases ([]:Str)==a.URI<;>cases nameB a.Local<;>cases prefB a.Prefix<;>cases a.Prefix==xmlnsP<;>cases a.Local==xmlnsP<;>cases textB a.Value<;>rfl
 |false=>
  simp only [cond_false,Bool.false_and]
  cases c1<;>cases dm.2<;>cases dm.1==a.URI<;>cases nameB a.Local<;>cases prefB a.Prefix<;>cases a.Prefix==xmlnsP<;>cases textB a.Value<;>rfl
def getAttr (l:List zO)(i:Nat):zO:=l[i]?.getD (zO.mk [] [] [] [])
def namedB (l:List ze)(n:Nat)(x:ze):Bool:=
 !(!(dmeans l n x.Prefix).2||(!((dmeans l n x.Prefix).1==x.URI)||(!nameB x.Local||(!prefB x.Prefix||x.Prefix==xmlnsP))))&& !(List.range' 0 x.Attrs.length).any fun i=>badA l n (x.Attrs.take i) (getAttr x.Attrs i)
theorem dnamed_eq (l:List ze)(n:Nat)(x:ze)(hn:l[n]? =some x)(hall: ∀ y∈l,okN y)(hp:ParOk l (n+1)):doc_named l (n:Int)=some (namedB l n x):=by
 have hx:=hall x (List.mem_of_getElem? hn)
 have hlt:n<l.length:=(List.getElem?_eq_some_iff.1 hn).1
 have hds:=ds_of_ok hall
 unfold doc_named namedB
 rw [Q1,hn]
 simp only [Option.bind_some]
 rw [dmeans_eq l n x.Prefix hds hlt hp]
 simp only [Option.bind_some]
 rw [Is_eq x.Local (by have:=hx.2.1;omega),prefix_eq x.Prefix hx.1]
 simp only [Option.bind_some]
 have k:=bad_loop (τ:=Unit) (Jp l (n:Int) x) x.Attrs.length (fun i=>badA l n (x.Attrs.take i) (getAttr x.Attrs i)) (fun i hi=>by
  rw [named_step l n x hds hlt hp hx i hi]
  unfold getAttr
  rw [List.getElem?_eq_getElem hi];rfl) (by
  unfold Jp
  have e:decide ((x.Attrs.length:Int)<(x.Attrs.length:Int))=false:=by simp
  simp only [e,cond_false]) x.Attrs.length 0 (by omega) (by omega)
 rw [Nat.sub_zero] at k
 rw [show iter (Jp l (n:Int) x) 0=_ from k]
 generalize (List.range' 0 x.Attrs.length).any (fun i=>badA l n (x.Attrs.take i) (getAttr x.Attrs i))=c
 cases (dmeans l n x.Prefix).2<;>cases (dmeans l n x.Prefix).1==x.URI<;>cases nameB x.Local<;>cases prefB x.Prefix<;>cases x.Prefix==xmlnsP<;>cases c<;>rfl
theorem HasSuffix_eq (s t:Str)(h:s.length≤1048576):Z4 s t=some (decide (t.length≤s.length)&&(s.drop (s.length-t.length)==t)):=by
 unfold Z4 Zh
 by_cases hl:t.length≤s.length
 ·rw [show decide ((s.length:Int)≥(t.length:Int))=true by rw [decide_eq_true_eq];omega]
  simp only [cond_true]
  rw [show w64 ((s.length:Int)-(t.length:Int))=((s.length-t.length:Nat):Int) by rw [qv (by omega)];omega,qP (by omega)]
  simp [hl]
 ·rw [show decide ((s.length:Int)≥(t.length:Int))=false by rw [decide_eq_false_iff_not];omega]
  simp [hl]
theorem target_some (s:Str): ∃ v,zap s=some v:=by
 unfold zap
 by_cases h:s.length=3
 ·obtain ⟨a,b,c,rfl⟩: ∃ a b c,s=[a,b,c]:=by
   match s,h with
   |[a,b,c],_=>exact ⟨a,b,c,rfl⟩
  have a0:at' [a,b,c] 0=some a:=rfl
  have a1:at' [a,b,c] 1=some b:=rfl
  have a2:at' [a,b,c] 2=some c:=rfl
  rw [show ((([a,b,c]:Str).length:Int)==3)=true from rfl]
  simp only [cond_true,a0,a1,a2,Option.bind_some]
  cases (a.toNat:Int)==120<;>cases (a.toNat:Int)==88<;>cases (b.toNat:Int)==109<;>cases (b.toNat:Int)==77<;>cases (c.toNat:Int)==108<;>exact ⟨_,rfl⟩
 ·rw [show ((s.length:Int)==3)=false by rw [beq_eq_false_iff_ne];omega]
  exact ⟨_,rfl⟩
theorem formed_some (l:List ze)(n:Nat)(x:ze)(last:Int)(hn:l[n]? =some x)(hall: ∀ y∈l,okN y)(hp:ParOk l (n+1))(hla:last<(l.length:Int)): ∃ v,zaq l (n:Int) last=some v∧(v=true→x.Kind=1∨x.Kind=2∨x.Kind=3∨x.Kind=4)∧(v=true→x.Kind=1→declaredB x.Decls=true∧namedB l n x=true∧x.Text=[])∧(v=true→x.Kind≠1→bareB x=true):=by
 have hx:=hall x (List.mem_of_getElem? hn)
 unfold zaq
 rw [Q1,hn]
 simp only [Option.bind_some]
 by_cases k1:x.Kind=1
 ·rw [beq_iff_eq.2 k1]
  simp only [cond_true]
  rw [declared_eq _ hx.2.2.2.2.1 hx.2.2.2.2.2.2.1,dnamed_eq l n x hn hall hp]
  simp only [Option.bind_some]
  cases ht:x.Text==[] with
  |false=>exact ⟨false,rfl,(fun h=>by cases h),(fun h=>by cases h),(fun h=>by cases h)⟩
  |true=>
   cases hd:declaredB x.Decls with
   |false=>exact ⟨false,rfl,(fun h=>by cases h),(fun h=>by cases h),(fun h=>by cases h)⟩
   |true=>exact ⟨namedB l n x,rfl,fun _=>Or.inl k1,fun h _=>⟨rfl,h,by simpa using ht⟩,fun _ h=>absurd k1 h⟩
 ·rw [beq_eq_false_iff_ne.2 k1]
  simp only [cond_false,bare_eq,Option.bind_some]
  rw [dtext_eq _ hx.2.2.2.1,Jj _ _ (by have:=hx.2.2.2.1;omega),Jj _ _ (by have:=hx.2.2.2.1;omega),HasSuffix_eq _ _ hx.2.2.2.1,Is_eq x.Local (by have:=hx.2.1;omega)]
  simp only [Option.bind_some]
  have hbl: ∃ b,((bif (!(x.Text==[])) then (at' x.Text 0).bind fun v11=>(QA v11).bind fun v12=>some v12 else some false):Option Bool)=some b:=by
   cases hxt:x.Text with
   |nil=>exact ⟨false,rfl⟩
   |cons c r=>exact ⟨isB c,by
    have a0:at' (c::r) 0=some c:=rfl
    rw [show (!((c::r:Str)==[]))=true from rfl]
    simp only [cond_true,a0,Option.bind_some,Blank_eq]⟩
  obtain ⟨bb,hb2⟩:=hbl
  rw [hb2]
  cases hb:bareB x with
  |false=>
   refine ⟨false,?_,(fun h=>by cases h),(fun h=>by cases h),(fun h=>by cases h)⟩
   simp only [cond_false]
   cases x.Kind==2<;>cases x.Kind==3<;>cases x.Kind==4<;>simp only [cond_true,cond_false]
   all_goals rfl
  |true=>
   simp only [cond_true]
   by_cases k2:x.Kind=2
   ·rw [beq_iff_eq.2 k2]
    simp only [cond_true]
    have hl: ∃ b,((bif decide (last<0) then some true else (at' l last).bind fun v6=>some (v6.Kind != 2)):Option Bool)=some b:=by
     by_cases h0:last<0
     ·rw [show decide (last<0)=true by rw [decide_eq_true_eq];exact h0];exact ⟨true,rfl⟩
     ·rw [show decide (last<0)=false by rw [decide_eq_false_iff_not];exact h0]
      obtain ⟨m,rfl⟩: ∃ m:Nat,last=(m:Int):=⟨last.toNat,by omega⟩
      simp only [cond_false]
      rw [z7 (by omega)];exact ⟨_,rfl⟩
    obtain ⟨b,hb3⟩:=hl
    rw [hb3]
    cases x.Local==[]<;>cases x.Text==[]<;>cases textB x.Text<;>exact ⟨_,rfl,fun _=>Or.inr (Or.inl k2),fun _ h=>absurd h k1,fun _ _=>(by first|rfl|trivial)⟩
   ·rw [beq_eq_false_iff_ne.2 k2]
    simp only [cond_false]
    by_cases k3:x.Kind=3
    ·rw [beq_iff_eq.2 k3]
     simp only [cond_true]
     cases x.Local==[]<;>cases textB x.Text<;>cases contains x.Text [45,45]<;>exact ⟨_,rfl,fun _=>Or.inr (Or.inr (Or.inl k3)),fun _ h=>absurd h k1,fun _ _=>(by first|rfl|trivial)⟩
    ·rw [beq_eq_false_iff_ne.2 k3]
     simp only [cond_false]
     by_cases k4:x.Kind=4
     ·rw [beq_iff_eq.2 k4]
      simp only [cond_true]
      obtain ⟨tg,ht⟩:=target_some x.Local
      rw [ht]
      simp only [Option.bind_some]
      cases nameB x.Local<;>cases tg<;>cases textB x.Text<;>cases contains x.Text [63,62]<;>exact ⟨_,rfl,fun _=>Or.inr (Or.inr (Or.inr k4)),fun _ h=>absurd h k1,fun _ _=>(by first|rfl|trivial)⟩
     ·rw [beq_eq_false_iff_ne.2 k4]
      exact ⟨false,rfl,(fun h=>by cases h),(fun h=>by cases h),(fun h=>by cases h)⟩
inductive Anc (l:List ze):Nat→Nat→Prop
 |refl (y:Nat):Anc l y y
 |step {y a:Nat} {z:ze}:l[y]? =some z→0≤z.Parent→Anc l z.Parent.toNat a→Anc l y a
def KindP (l:List ze)(n:Int):Prop:= ∃ z,l[n.toNat]? =some z∧(z.Kind=0∨z.Kind=1)
theorem stands_loop (l:List ze)(n:Nat)(x r:ze)(hx:l[n]? =some x)(h0:l[0]? =some r)(hr:r.Parent= -1)(hp:ParOk l n): ∀ (k y:Nat),y<k→y<n→ ∃ v,iter (ZW l (n:Int)) (y:Int)=some v∧(v= .inl true→0≤x.Parent∧x.Parent≤(y:Int)∧KindP l x.Parent∧Anc l y x.Parent.toNat):=by
 have hn:n<l.length:=(List.getElem?_eq_some_iff.1 hx).1
 have hat:at' l (n:Int)=some x:=by rw [Q1,hx]
 intro k
 induction k with
 |zero=>intro y h;omega
 |succ k ih=>
  intro y h hy
  have hyl:y<l.length:=by omega
  have e:decide ((y:Int)≥0)=true:=by simp
  have hay:at' l (y:Int)=some l[y]:=z7 hyl
  by_cases hq:(y:Int)=x.Parent
  ·refine ⟨_,zg (q:= .inl (bif l[y].Kind==0 then true else l[y].Kind==1)) ?_,fun hv=> ?_⟩
   ·unfold ZW
    simp only [e,cond_true,hat,Option.bind_some]
    rw [beq_iff_eq.2 hq]
    simp only [cond_true,hay,Option.bind_some]
    cases l[y].Kind==0<;>rfl
   ·have hb:(bif l[y].Kind==0 then true else l[y].Kind==1)=true:=by injection hv
    refine ⟨by omega,by omega,⟨l[y],by rw [←hq,Int.toNat_natCast,List.getElem?_eq_getElem hyl],?_⟩,by rw [←hq,Int.toNat_natCast];exact .refl y⟩
    cases hk:l[y].Kind==0 with
    |true=>left;simpa using hk
    |false=>rw [hk] at hb;right;simpa using hb
  ·have st:ZW l (n:Int) (y:Int)=some (.inl l[y].Parent):=by
    unfold ZW
    simp only [e,cond_true,hat,Option.bind_some]
    rw [beq_eq_false_iff_ne.2 hq]
    simp only [cond_false,hay,Option.bind_some]
   rw [zt st]
   by_cases y0:y=0
   ·subst y0
    have:l[0]=r:=by rw [List.getElem?_eq_getElem hyl] at h0;exact Option.some.inj h0
    rw [this,hr]
    exact ⟨.inr (),zg rfl,fun hv=>by cases hv⟩
   ·obtain ⟨p0,p1⟩:=hp y l[y] (by omega) hy (List.getElem?_eq_getElem hyl);obtain ⟨v,k1,k2⟩:=ih l[y].Parent.toNat (by omega) (by omega)
    have hpn:((l[y].Parent.toNat:Nat):Int)=l[y].Parent:=by omega
    rw [hpn] at k1
    refine ⟨v,k1,fun hv=> ?_⟩;obtain ⟨m1,m2,m3,m4⟩:=k2 hv;exact ⟨m1,by omega,m3,.step (List.getElem?_eq_getElem hyl) p0 m4⟩
theorem stands_some (l:List ze)(n:Nat)(x r:ze)(hx:l[n]? =some x)(h0:l[0]? =some r)(hr:r.Parent= -1)(hp:ParOk l n)(h1:1≤n)(hn:n<4611686018427387904): ∃ v,zao l (n:Int)=some v∧(v=true→0≤x.Parent∧x.Parent<(n:Int)∧KindP l x.Parent∧Anc l (n-1) x.Parent.toNat):=by
 obtain ⟨v,k1,k2⟩:=stands_loop l n x r hx h0 hr hp n (n-1) (by omega) (by omega);unfold zao
 rw [show w64 ((n:Int)-1)=((n-1:Nat):Int) by rw [qv (by omega)];omega,k1]
 cases v with
 |inl b=>
  refine ⟨b,rfl,fun h=> ?_⟩;obtain ⟨m1,m2,m3,m4⟩:=k2 (by rw [h]);exact ⟨m1,by omega,m3,m4⟩
 |inr u=>exact ⟨false,rfl,fun h=>by cases h⟩
structure NodeOk (l:List ze) (m:Nat) (x:ze):Prop where
 kind:x.Kind=1∨x.Kind=2∨x.Kind=3∨x.Kind=4
 elem:x.Kind=1→declaredB x.Decls=true∧namedB l m x=true∧x.Text=[]
 bare:x.Kind≠1→bareB x=true
 par:0≤x.Parent∧x.Parent<(m:Int)
 pk:KindP l x.Parent
 anc:Anc l (m-1) x.Parent.toNat
 und:x.Parent=0→x.Kind≠2
def TopOk (l:List ze)(n:Nat)(t:Int):Prop:=(t=0∧ ∀ m x,0<m→m<n→l[m]? =some x→x.Parent=0→x.Kind≠1)∨(0<t∧t<(n:Int)∧ ∃ y,l[t.toNat]? =some y∧y.Parent=0∧y.Kind=1∧ ∀ m x,0<m→m<n→l[m]? =some x→x.Parent=0→x.Kind=1→(m:Int)=t)
theorem check_loop (l:List ze)(r:ze)(h0:l[0]? =some r)(hr:r.Parent= -1)(hall: ∀ y∈l,okN y)(hlen:l.length<4611686018427387904): ∀ (k n:Nat) (t:Int) (last:List Int),l.length-n≤k→1≤n→n≤l.length→(∀ m x,0<m→m<n→l[m]? =some x→NodeOk l m x)→last.length=l.length→(∀ v∈last,v<(n:Int))→TopOk l n t→
 ∃ v,iter (zE l) (t,((n:Int),last))=some v∧(∀ q,v= .inr q→(∀ m x,0<m→m<l.length→l[m]? =some x→NodeOk l m x)∧TopOk l l.length q):=by
 intro k
 induction k with
 |zero=>
  intro n t last h1 h2 h3 h4 h5 h6 h7
  obtain rfl:n=l.length:=by omega
  refine ⟨.inr t,zg ?_,fun q hq=>by cases hq;exact ⟨h4,h7⟩⟩;unfold zE
  have e:decide ((l.length:Int)<(l.length:Int))=false:=by simp
  simp only [e,cond_false]
 |succ k ih=>
  intro n t last h1 h2 h3 h4 h5 h6 h7
  by_cases hn:n<l.length
  ·have e:decide ((n:Int)<(l.length:Int))=true:=by rw [decide_eq_true_eq];omega
   have hx:l[n]? =some l[n]:=List.getElem?_eq_getElem hn
   generalize l[n]=x at hx
   have hat:at' l (n:Int)=some x:=by rw [Q1,hx]
   have hp:ParOk l n:=fun m y a b c=>(h4 m y a b c).par
   obtain ⟨v,s1,s2⟩:=stands_some l n x r hx h0 hr hp h2 (by omega)
   have bad: ∀ (h:zE l (t,((n:Int),last))=some (.inr (.inl ()))),∃ v,iter (zE l) (t,((n:Int),last))=some v∧(∀ q,v= .inr q→(∀ m x,0<m→m<l.length→l[m]? =some x→NodeOk l m x)∧TopOk l l.length q):=fun h=>⟨.inl (),zg h,fun q hq=>by cases hq⟩
   cases v with
   |false=>
    apply bad;unfold zE
    simp only [e,cond_true,s1,Option.bind_some,Bool.not_false]
   |true=>
    obtain ⟨p0,p1,p2,p3⟩:=s2 rfl
    have hpn:((x.Parent.toNat:Nat):Int)=x.Parent:=by omega
    have hpl:x.Parent.toNat<last.length:=by omega
    have hla:at' last x.Parent=some last[x.Parent.toNat]:=by have:=z7 hpl;rwa [hpn] at this
    have hlv:=h6 _ (List.getElem_mem hpl)
    have hp1:ParOk l (n+1):=fun m y a b c=>by
     by_cases hm:m=n
     ·subst hm;rw [hx] at c;cases c;exact ⟨p0,p1⟩
     ·exact hp m y a (by omega) c
    obtain ⟨w,f1,f2,f3,f4⟩:=formed_some l n x last[x.Parent.toNat] hx hall hp1 (by omega)
    cases w with
    |false=>
     apply bad;unfold zE
     simp only [e,cond_true,s1,Option.bind_some,Bool.not_true,cond_false,hat,hla,f1,Bool.not_false]
    |true=>
     have hun:doc_under x=some (!(x.Parent==0)|| !(x.Kind==2)):=by
      unfold doc_under
      by_cases hz:x.Parent=0
      ·rw [hz];rfl
      ·rw [show (x.Parent != 0)=true by simpa using hz,beq_eq_false_iff_ne.2 hz];rfl
     cases hu:(!(x.Parent==0)|| !(x.Kind==2)) with
     |false=>
      apply bad;unfold zE
      simp only [e,cond_true,s1,Option.bind_some,Bool.not_true,cond_false,hat,hla,f1,hun,hu,Bool.not_false]
     |true=>
      have hnode:NodeOk l n x:=⟨f2 rfl,f3 rfl,f4 rfl,⟨p0,p1⟩,p2,p3,fun hz hk=>by rw [hz,hk] at hu;cases hu⟩
      have h4': ∀ m y,0<m→m<n+1→l[m]? =some y→NodeOk l m y:=fun m y a b c=>by
       by_cases hm:m=n
       ·subst hm;rw [hx] at c;cases c;exact hnode
       ·exact h4 m y a (by omega) c
      have hput:put last x.Parent (n:Int)=some (last.set x.Parent.toNat (n:Int)):=by have:=put_of hpl (n:Int);rwa [hpn] at this
      have h5':(last.set x.Parent.toNat (n:Int)).length=l.length:=by rw [List.length_set];exact h5
      have h6': ∀ v∈last.set x.Parent.toNat (n:Int),v<((n+1:Nat):Int):=fun v hv=>by
       rcases List.mem_or_eq_of_mem_set hv with h|h
       ·have:=h6 v h;omega
       ·omega
      have hw:w64 ((n:Int)+1)=((n+1:Nat):Int):=qb (by omega)
      by_cases hz:x.Parent=0
      ·by_cases hk:x.Kind=1
       ·by_cases ht:t>0
        ·apply bad;unfold zE
         simp only [e,cond_true,s1,Option.bind_some,Bool.not_true,cond_false,hat,hla,f1,hun,hu]
         rw [beq_iff_eq.2 hz,beq_iff_eq.2 hk,show decide (t>0)=true by rw [decide_eq_true_eq];exact ht];rfl
        ·have hz':t=0∧ ∀ m x,0<m→m<n→l[m]? =some x→x.Parent=0→x.Kind≠1:=by
          rcases h7 with h|h
          ·exact h
          ·omega
         have st:zE l (t,((n:Int),last))=some (.inl ((n:Int),(((n+1:Nat):Int),last.set x.Parent.toNat (n:Int)))):=by
          unfold zE
          simp only [e,cond_true,s1,Option.bind_some,Bool.not_true,cond_false,hat,hla,f1,hun,hu]
          rw [beq_iff_eq.2 hz,beq_iff_eq.2 hk,show decide (t>0)=false by rw [decide_eq_false_iff_not];exact ht]
          simp only [cond_true,cond_false,hput,Option.bind_some,hw]
         rw [zt st]
         refine ih (n+1) (n:Int) _ (by omega) (by omega) (by omega) h4' h5' h6' (Or.inr ⟨by omega,by omega,x,by rw [Int.toNat_natCast];exact hx,hz,hk,fun m y a b c d f=> ?_⟩)
         by_cases hm:m=n
         ·rw [hm]
         ·exact absurd f (hz'.2 m y a (by omega) c d)
       ·have st:zE l (t,((n:Int),last))=some (.inl (t,(((n+1:Nat):Int),last.set x.Parent.toNat (n:Int)))):=by
         unfold zE
         simp only [e,cond_true,s1,Option.bind_some,Bool.not_true,cond_false,hat,hla,f1,hun,hu]
         rw [beq_iff_eq.2 hz,beq_eq_false_iff_ne.2 hk]
         simp only [cond_true,cond_false,hput,Option.bind_some,hw]
        rw [zt st]
        refine ih (n+1) t _ (by omega) (by omega) (by omega) h4' h5' h6' ?_
        rcases h7 with ⟨a,b⟩|⟨a,b,y,c,d,f,g⟩
        ·refine Or.inl ⟨a,fun m z i j u w=> ?_⟩
         by_cases hm:m=n
         ·subst hm;rw [hx] at u;cases u;exact hk
         ·exact b m z i (by omega) u w
        ·refine Or.inr ⟨a,by omega,y,c,d,f,fun m z i j u w o=> ?_⟩
         by_cases hm:m=n
         ·subst hm;rw [hx] at u;cases u;exact absurd o hk
         ·exact g m z i (by omega) u w o
      ·have st:zE l (t,((n:Int),last))=some (.inl (t,(((n+1:Nat):Int),last.set x.Parent.toNat (n:Int)))):=by
        unfold zE
        simp only [e,cond_true,s1,Option.bind_some,Bool.not_true,cond_false,hat,hla,f1,hun,hu]
        rw [beq_eq_false_iff_ne.2 hz]
        simp only [cond_false,hput,Option.bind_some,hw]
       rw [zt st]
       refine ih (n+1) t _ (by omega) (by omega) (by omega) h4' h5' h6' ?_
       rcases h7 with ⟨a,b⟩|⟨a,b,y,c,d,f,g⟩
       ·refine Or.inl ⟨a,fun m z i j u w=> ?_⟩
        by_cases hm:m=n
        ·subst hm;rw [hx] at u;cases u;exact absurd w hz
        ·exact b m z i (by omega) u w
       ·refine Or.inr ⟨a,by omega,y,c,d,f,fun m z i j u w o=> ?_⟩
        by_cases hm:m=n
        ·subst hm;rw [hx] at u;cases u;exact absurd w hz
        ·exact g m z i (by omega) u w o
  ·obtain rfl:n=l.length:=by omega
   refine ⟨.inr t,zg ?_,fun q hq=>by cases hq;exact ⟨h4,h7⟩⟩;unfold zE
   have e:decide ((l.length:Int)<(l.length:Int))=false:=by simp
   simp only [e,cond_false]
theorem fill_loop (v8:List Int)(hv:v8.length<4611686018427387904): ∀ (k i:Nat) (d:List Int),v8.length-i≤k→i≤v8.length→d.length=v8.length→(∀ v∈d.take i,v= -1)→ ∃ d',iter (QN v8) ((i:Int),d)=some d'∧d'.length=v8.length∧(∀ v∈d',v= -1):=by
 intro k
 induction k with
 |zero=>
  intro i d h1 h2 h3 h4
  refine ⟨d,zg ?_,h3,by rw [List.take_of_length_le (by omega)] at h4;exact h4⟩;unfold QN
  have e:decide ((i:Int)<(v8.length:Int))=false:=by rw [decide_eq_false_iff_not];omega
  simp only [e,cond_false]
 |succ k ih=>
  intro i d h1 h2 h3 h4
  by_cases hi:i<v8.length
  ·have e:decide ((i:Int)<(v8.length:Int))=true:=by rw [decide_eq_true_eq];omega
   have hid:i<d.length:=by omega
   obtain ⟨d',k1,k2⟩:=ih (i+1) (d.set i (-1)) (by omega) (by omega) (by rw [List.length_set];exact h3) (fun v hv'=>by
    rw [List.take_succ_eq_append_getElem (by rw [List.length_set];exact hid)] at hv'
    rcases List.mem_append.1 hv' with h|h
    ·rw [List.take_set_of_le (Nat.le_refl _)] at h;exact h4 v h
    ·have:=List.mem_singleton.1 h
     rw [this,List.getElem_set_self])
   refine ⟨d',?_,k2⟩
   rw [←k1]
   refine zt ?_;unfold QN
   simp only [e,cond_true]
   rw [z7 hid]
   simp only [Option.bind_some]
   rw [put_of hid]
   simp only [Option.bind_some]
   rw [qb (by omega)]
  ·refine ⟨d,zg ?_,h3,by rw [List.take_of_length_le (by omega)] at h4;exact h4⟩;unfold QN
   have e:decide ((i:Int)<(v8.length:Int))=false:=by rw [decide_eq_false_iff_not];omega
   simp only [e,cond_false]
structure ListOk (l:List ze) (t:Int):Prop where
 root: ∃ r,l[0]? =some r∧r.Kind=0∧r.Parent= -1∧bareB r=true∧r.Local=[]∧r.Text=[]
 node: ∀ m x,0<m→m<l.length→l[m]? =some x→NodeOk l m x
 top:TopOk l l.length t
 tpos:0<t
def rootB (r:ze):Bool:=r.Kind==0&&(r.Parent== -1&&(bareB r&&(r.Local==[]&&r.Text==[])))
theorem check_head (r:ze)(l':List ze):J6 (r::l')=bif rootB r then ((mk 8 (((r::l':List ze).length:Nat):Int) 0).bind fun v8=>(iter (QN v8) (0,v8)).bind (fun (q12:(List Int))=>(iter (zE (r::l')) (0,1,q12)).bind (Sum.elim (fun (q32:Unit)=>some (0,false)) (fun (q33:Int)=>some (q33,(decide (q33>0))))))) else some (0,false):=by
 unfold J6 rootB
 have a0:at' (r::l') 0=some r:=rfl
 have e0:((((r::l':List ze).length:Nat):Int)==0)=false:=by rw [beq_eq_false_iff_ne];simp;omega
 have key: ∀ Q:Option (Int×Bool),((bif (!(r.Kind==0)) then some true else (bif (!(r.Parent== -1)) then some true else (bif (!(bareB r)) then some true else (bif (!(r.Local==[])) then some true else some (!(r.Text==[]))))):Option Bool)).bind (fun (q7:Bool)=>(bif q7 then some ((0:Int),false) else Q))=bif r.Kind==0&&(r.Parent== -1&&(bareB r&&(r.Local==[]&&r.Text==[]))) then Q else some ((0:Int),false):=by
  intro Q
  cases r.Kind==0<;>cases r.Parent== -1<;>cases bareB r<;>cases r.Local==[]<;>cases r.Text==[]<;>rfl
 simp only [e0,cond_false,a0,Option.bind_some,bare_eq,bne]
 exact key _
def headV:Unit⊕Int→Int×Bool
 | .inl _=>(0,false)
 | .inr q=>(q,decide (q>0))
theorem head_false (r:ze)(l':List ze)(h:rootB r=false):J6 (r::l')=some (0,false):=by rw [check_head,h];exact cond_false _ _
theorem head_true (r:ze)(l':List ze)(h:rootB r=true)(v8 d':List Int)(w:Unit⊕Int)(h1:mk 8 (((r::l':List ze).length:Nat):Int) 0=some v8)(h2:iter (QN v8) (0,v8)=some d')(h3:iter (zE (r::l')) (0,1,d')=some w):J6 (r::l')=some (headV w):=by
 rw [check_head,h,cond_true,h1,Option.bind_some,h2,Option.bind_some,h3,Option.bind_some]
 cases w<;>rfl
theorem check_some (l:List ze)(hall: ∀ y∈l,okN y)(hlen:l.length≤1073741824): ∃ v,J6 l=some v∧(v.2=true→ListOk l v.1):=by
 cases l with
 |nil=>exact ⟨(0,false),rfl,fun h=>by cases h⟩
 |cons r l'=>
  cases hr:rootB r with
  |false=>exact ⟨(0,false),head_false r l' hr,fun h=>by cases h⟩
  |true=>
   have hr':=hr
   simp only [rootB,Bool.and_eq_true,beq_iff_eq] at hr
   obtain ⟨k0,k1,k2,k3,k4⟩:=hr;obtain ⟨v8,hv8,hl8⟩: ∃ v8:List Int,mk 8 (((r::l':List ze).length:Nat):Int) 0=some v8∧v8.length=(r::l').length:=⟨_,mk_of 0 (by omega),by rw [List.length_replicate];omega⟩;obtain ⟨d',f1,f2,f3⟩:=fill_loop v8 (by omega) v8.length 0 v8 (by omega) (by omega) rfl (by simp);obtain ⟨v,c1,c2⟩:=check_loop (r::l') r rfl k1 hall (by omega) ((r::l').length-1) 1 0 d' (Nat.le_refl _) (Nat.le_refl _) (by simp) (fun m x a b=>by omega) (by rw [f2,hl8]) (fun v hv=>by rw [f3 v hv];decide) (Or.inl ⟨rfl,fun m x a b=>by omega⟩)
   have e:=head_true r l' hr' v8 d' v hv8 f1 c1
   cases v with
   |inl u=>exact ⟨(0,false),e,fun h=>by cases h⟩
   |inr q=>
    obtain ⟨c3,c4⟩:=c2 q rfl;exact ⟨(q,decide (q>0)),e,fun h=>⟨⟨r,rfl,k0,k1,k2,k3,k4⟩,c3,c4,by simpa using h⟩⟩
theorem Anc.trans {l:List ze}{a b c:Nat}(h:Anc l a b)(k:Anc l b c):Anc l a c:=by
 induction h with
 |refl y=>exact k
 |step h1 h2 h3 ih=>exact .step h1 h2 (ih k)
theorem Anc.le {l:List ze}(hp:ParOk l l.length)(h0: ∀ r,l[0]? =some r→r.Parent= -1){a b:Nat}(h:Anc l a b):b≤a:=by
 induction h with
 |refl y=>exact Nat.le_refl _
 | @step y a z h1 h2 h3 ih=>
  by_cases hy:y=0
  ·subst hy;have:=h0 z h1;omega
  ·have:=hp y z (by omega) (List.getElem?_eq_some_iff.1 h1).1 h1
   omega
theorem Anc.up {l:List ze}{m n:Nat}(h:Anc l m n)(hne:m≠n): ∃ z,l[m]? =some z∧0≤z.Parent∧Anc l z.Parent.toNat n:=by
 cases h with
 |refl=>exact absurd rfl hne
 |step h1 h2 h3=>exact ⟨_,h1,h2,h3⟩
theorem anc_down {l:List ze}{t:Int}(hL:ListOk l t){m n:Nat}(hm:m<l.length)(h:Anc l m n): ∀ j,n≤j→j≤m→Anc l j n:=by
 have hp:ParOk l l.length:=fun m x a b c=>(hL.node m x a b c).par
 have h0: ∀ r,l[0]? =some r→r.Parent= -1:=fun r hr=>by
  obtain ⟨r',h1,_,h2,_⟩:=hL.root
  rw [h1] at hr;cases hr;exact h2
 have one: ∀ m,m<l.length→Anc l m n→n<m→Anc l (m-1) n:=fun m hm h hlt=>by
  obtain ⟨z,h1,h2,h3⟩:=h.up (by omega);exact (hL.node m z (by omega) hm h1).anc.trans h3
 have key: ∀ d j,m=j+d→n≤j→Anc l j n:=by
  intro d
  induction d with
  |zero=>intro j e _;rw [←show m=j from e];exact h
  |succ d ih=>
   intro j e hj
   have:=one (j+1) (by omega) (ih (j+1) (by omega) (by omega)) (by omega)
   exact this
 intro j h1 h2
 exact key (m-j) j (by omega) h1
def gz (en:List Int)(j:Nat):Int:=en[j]?.getD 0
theorem gz_set (en:List Int)(i j:Nat)(v:Int)(hi:i<en.length):gz (en.set i v) j=if i=j then v else gz en j:=by
 unfold gz
 rw [List.getElem?_set]
 by_cases h:i=j
 ·subst h;rw [if_pos rfl,if_pos rfl,if_pos hi];rfl
 ·rw [if_neg h,if_neg h]
theorem gz_get {en:List Int}{j:Nat}(h:j<en.length):gz en j=en[j]:=by unfold gz;rw [List.getElem?_eq_getElem h];rfl
structure EInv (l:List ze) (k:Nat) (en:List Int):Prop where
 len:en.length=l.length
 wit: ∀ j,j<l.length→gz en j=0∨ ∃ m:Nat,m<l.length∧Anc l m j∧gz en j=(m:Int)+1
 own: ∀ j,k≤j→j<l.length→(j:Int)+1≤gz en j
 kid: ∀ c x,k≤c→0<c→l[c]? =some x→gz en c≤gz en x.Parent.toNat
theorem mx_eq (a b:Int):mx a b=a∨mx a b=b:=by unfold mx;split<;>simp
theorem mx_le (a b:Int):a≤mx a b∧b≤mx a b:=by unfold mx;split<;>omega
theorem EInv.step {l:List ze}{t:Int}(hL:ListOk l t){k:Nat}(hk:k<l.length){en:List Int}(h:EInv l (k+1) en){x:ze}(hx:l[k]? =some x):
 (x.Parent≥0→EInv l k ((en.set k (mx (gz en k) ((k:Int)+1))).set x.Parent.toNat (mx (gz (en.set k (mx (gz en k) ((k:Int)+1))) x.Parent.toNat) (gz (en.set k (mx (gz en k) ((k:Int)+1))) k))))∧(¬ x.Parent≥0→EInv l k (en.set k (mx (gz en k) ((k:Int)+1)))):=by
 have hlen:=h.len
 have g1: ∀ j,gz (en.set k (mx (gz en k) ((k:Int)+1))) j=if k=j then mx (gz en k) ((k:Int)+1) else gz en j:=fun j=>gz_set en k j _ (by omega)
 have hm1:=mx_le (gz en k) ((k:Int)+1)
 have w1: ∀ j,j<l.length→gz (en.set k (mx (gz en k) ((k:Int)+1))) j=0∨ ∃ m:Nat,m<l.length∧Anc l m j∧gz (en.set k (mx (gz en k) ((k:Int)+1))) j=(m:Int)+1:=fun j hj=>by
  rw [g1 j]
  by_cases e:k=j
  ·subst e
   rw [if_pos rfl]
   rcases mx_eq (gz en k) ((k:Int)+1) with hq|hq
   ·rw [hq];exact h.wit k hj
   ·rw [hq];exact Or.inr ⟨k,hj,.refl k,rfl⟩
  ·rw [if_neg e];exact h.wit j hj
 constructor
 ·intro hpar
  have hk0:0<k:=by
   rcases Nat.eq_zero_or_pos k with e|e
   ·subst e
    obtain ⟨r',h1,_,h2,_⟩:=hL.root
    rw [h1] at hx;cases hx;omega
   ·exact e
  obtain ⟨p0,p1⟩:=(hL.node k x hk0 hk hx).par
  have hpk:x.Parent.toNat<k:=by omega
  have gk:gz (en.set k (mx (gz en k) ((k:Int)+1))) k=mx (gz en k) ((k:Int)+1):=by rw [g1 k,if_pos rfl]
  have gp:gz (en.set k (mx (gz en k) ((k:Int)+1))) x.Parent.toNat=gz en x.Parent.toNat:=by rw [g1,if_neg (by omega)]
  rw [gk,gp]
  have hm2:=mx_le (gz en x.Parent.toNat) (mx (gz en k) ((k:Int)+1))
  have g2: ∀ j,gz ((en.set k (mx (gz en k) ((k:Int)+1))).set x.Parent.toNat (mx (gz en x.Parent.toNat) (mx (gz en k) ((k:Int)+1)))) j=if x.Parent.toNat=j then mx (gz en x.Parent.toNat) (mx (gz en k) ((k:Int)+1)) else if k=j then mx (gz en k) ((k:Int)+1) else gz en j:=fun j=>by
   rw [gz_set _ _ _ _ (by rw [List.length_set];omega),g1 j]
  refine ⟨by rw [List.length_set,List.length_set];exact hlen,fun j hj=> ?_,fun j h1 h2=> ?_,fun c y h1 h2 h3=> ?_⟩
  ·rw [g2 j]
   by_cases e:x.Parent.toNat=j
   ·subst e
    rw [if_pos rfl]
    rcases mx_eq (gz en x.Parent.toNat) (mx (gz en k) ((k:Int)+1)) with hq|hq
    ·rw [hq];exact h.wit _ hj
    ·rw [hq]
     have:=w1 k hk
     rw [gk] at this
     rcases this with a|⟨m,a,b,c⟩
     ·exact Or.inl a
     ·exact Or.inr ⟨m,a,b.trans (.step hx p0 (.refl _)),c⟩
   ·rw [if_neg e]
    have:=w1 j hj
    rw [g1 j] at this
    exact this
  ·rw [g2 j,if_neg (by omega)]
   by_cases e:k=j
   ·subst e;rw [if_pos rfl];omega
   ·rw [if_neg e];exact h.own j (by omega) h2
  ·have hcl:=(List.getElem?_eq_some_iff.1 h3).1
   have hy:=(hL.node c y h2 hcl h3).par
   rw [g2 c,g2 y.Parent.toNat,if_neg (by omega)]
   by_cases e:k=c
   ·subst e
    rw [hx] at h3;cases h3
    rw [if_pos rfl,if_pos rfl];omega
   ·rw [if_neg e]
    have hold:=h.kid c y (by omega) h2 h3
    by_cases e2:x.Parent.toNat=y.Parent.toNat
    ·rw [if_pos e2,e2]
     have:=mx_le (gz en y.Parent.toNat) (mx (gz en k) ((k:Int)+1))
     omega
    ·rw [if_neg e2]
     by_cases e3:k=y.Parent.toNat
     ·rw [if_pos e3]
      rw [←e3] at hold;omega
     ·rw [if_neg e3];exact hold
 ·intro hpar
  refine ⟨by rw [List.length_set];exact hlen,w1,fun j h1 h2=> ?_,fun c y h1 h2 h3=> ?_⟩
  ·rw [g1 j]
   by_cases e:k=j
   ·subst e;rw [if_pos rfl];omega
   ·rw [if_neg e];exact h.own j (by omega) h2
  ·have hcl:=(List.getElem?_eq_some_iff.1 h3).1
   have hy:=(hL.node c y h2 hcl h3).par
   by_cases e:k=c
   ·subst e
    rw [hx] at h3;cases h3;omega
   ·rw [g1 c,if_neg e,g1 y.Parent.toNat]
    have hold:=h.kid c y (by omega) h2 h3
    by_cases e3:k=y.Parent.toNat
    ·rw [if_pos e3];rw [←e3] at hold;omega
    ·rw [if_neg e3];exact hold
def EndOk (l:List ze)(en:List Int):Prop:=en.length=l.length∧ ∀ j,j<l.length→ ∃ e:Nat,en[j]? =some (e:Int)∧j<e∧e≤l.length∧ ∀ m,j≤m→m<l.length→(m<e↔Anc l m j)
theorem EInv.done {l:List ze}{t:Int}(hL:ListOk l t){en:List Int}(h:EInv l 0 en):EndOk l en:=by
 refine ⟨h.len,fun j hj=> ?_⟩
 have hj':j<en.length:=by have:=h.len;omega
 have hown:=h.own j (Nat.zero_le _) hj
 rcases h.wit j hj with a|⟨m,a,b,c⟩
 ·omega
 ·refine ⟨m+1,?_,by omega,by omega,fun i h1 h2=>⟨fun hi=>anc_down hL a b i h1 (by omega),fun hi=> ?_⟩⟩
  ·rw [List.getElem?_eq_getElem hj',←gz_get hj',c];rfl
  ·have chain: ∀ {y z:Nat},Anc l y z→y<l.length→gz en y≤gz en z:=fun {y z} hyz=>by
    induction hyz with
    |refl y=>intro _;exact Int.le_refl _
    | @step y z' w s1 s2 s3 ih=>
     intro hy
     by_cases y0:y=0
     ·subst y0
      obtain ⟨r',r1,_,r2,_⟩:=hL.root
      rw [r1] at s1;cases s1;omega
     ·have hpw:=(hL.node y w (by omega) hy s1).par
      have k1:=h.kid y w (Nat.zero_le _) (by omega) s1
      have k2:=ih (by omega)
      omega
   have k1:=chain hi h2
   have k2:=h.own i (Nat.zero_le _) h2
   omega
end G
