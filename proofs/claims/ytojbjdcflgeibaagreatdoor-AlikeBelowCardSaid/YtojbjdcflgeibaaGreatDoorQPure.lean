/- PLAIN FUNCTIONS, printed by aw.py: what the functions compute. No program, no memory. Conditions: none. -/
import Derived.Test.YtojbjdcflgeibaaGreatDoorAbsM2
import Derived.Lib.IndexMore
import Derived.Shelf.Strings.Replace
set_option linter.unusedVariables false
namespace G
open W
structure QP where
 lo:UInt8
 hi:UInt8
structure zz where
 Prefix:Str
 URI:Str
def zz.eqb (x y:zz):Bool:=((x.Prefix==y.Prefix)&&(x.URI==y.URI))
structure zw where
 Prefix:Str
 Local:Str
 URI:Str
 Value:Str
def zw.eqb (x y:zw):Bool:=((x.Prefix==y.Prefix)&&((x.Local==y.Local)&&((x.URI==y.URI)&&(x.Value==y.Value))))
structure zd where
 Kind:Int
 Parent:Int
 Prefix:Str
 Local:Str
 URI:Str
 Text:Str
 Decls:(List zz)
 Attrs:(List zw)
structure zp where
 n:Int
 name:Str
structure zZ where
 from_:Int
 to_:Int
def zZ.ints (x:zZ):List Int:=[x.from_,x.to_]
def zZ.eqb (x y:zZ):Bool:=x.ints==y.ints
structure TNoCopy where
def TNoCopy.ints (x:TNoCopy):List Int:=[]
def TNoCopy.eqb (x y:TNoCopy):Bool:=x.ints==y.ints
structure TBool where
 blank:TNoCopy
 v:Int
structure TMutex2 where
 state:Int
 sema:Int
def TMutex2.ints (x:TMutex2):List Int:=[x.state,x.sema]
def TMutex2.eqb (x y:TMutex2):Bool:=x.ints==y.ints
structure TMutex where
 blank:TNoCopy
 mu:TMutex2
structure TOnce where
 blank:TNoCopy
 done:TBool
 m:TMutex
structure qv where
 l:(List zd)
 end_:(List Int)
 top:Int
structure Zf where
 a:(Option qv)
 b:(Option qv)
 comments:Bool
structure qb where
 n:Int
 text:Str
 is_:Bool
structure TReader where
 S:Str
 At:Int
 L:(List zd)
 Bad:Bool
structure TPoint where
 N:Int
 Part:Int
 I:Int
def TPoint.ints (x:TPoint):List Int:=[x.N,x.Part,x.I]
def TPoint.eqb (x y:TPoint):Bool:=x.ints==y.ints
structure TIndex where
 Doc:(Option qv)
 ids:(List (Str×Int))
structure TAnon where
 e0:Int
 e1:Int
def TAnon.ints (x:TAnon):List Int:=[x.e0,x.e1]
def TAnon.eqb (x y:TAnon):Bool:=x.ints==y.ints
def utf8First:Str:=[240,240,240,240,240,240,240,240,240,240,240,240,240,240,240,240,240,240,240,240,240,240,240,240,240,240,240,240,240,240,240,240,240,240,240,240,240,240,240,240,240,240,240,240,240,240,240,240,240,240,240,240,240,240,240,240,240,240,240,240,240,240,240,240,240,240,240,240,240,240,240,240,240,240,240,240,240,240,240,240,240,240,240,240,240,240,240,240,240,240,240,240,240,240,240,240,240,240,240,240,240,240,240,240,240,240,240,240,240,240,240,240,240,240,240,240,240,240,240,240,240,240,240,240,240,240,240,240,241,241,241,241,241,241,241,241,241,241,241,241,241,241,241,241,241,241,241,241,241,241,241,241,241,241,241,241,241,241,241,241,241,241,241,241,241,241,241,241,241,241,241,241,241,241,241,241,241,241,241,241,241,241,241,241,241,241,241,241,241,241,241,241,241,241,2,2,2,2,2,2,2,2,2,2,2,2,2,2,2,2,2,2,2,2,2,2,2,2,2,2,2,2,2,2,19,3,3,3,3,3,3,3,3,3,3,3,3,35,3,3,52,4,4,4,68,241,241,241,241,241,241,241,241,241,241,241]
def utf8Ranges:List QP:=[⟨128,191⟩,⟨160,191⟩,⟨128,159⟩,⟨144,191⟩,⟨128,143⟩,⟨0,0⟩,⟨0,0⟩,⟨0,0⟩,⟨0,0⟩,⟨0,0⟩,⟨0,0⟩,⟨0,0⟩,⟨0,0⟩,⟨0,0⟩,⟨0,0⟩,⟨0,0⟩]
noncomputable def qy (s:Str):Option Int:=
 (at' s 0).bind fun v1=>(at' s 1).bind fun v2=>(at' s 2).bind fun v3=>(at' s 3).bind fun v4=>(at' s 4).bind fun v5=>(at' s 5).bind fun v6=>(at' s 6).bind fun v7=>(at' s 7).bind fun v8=>some (v64 (bor 64 (v64 (bor 64 (v64 (bor 64 (v64 (bor 64 (v64 (bor 64 (v64 (bor 64 (v64 (bor 64 (v64 (v1.toNat:Int)) (v64 ((v64 (v2.toNat:Int))*2^8)))) (v64 ((v64 (v3.toNat:Int))*2^16)))) (v64 ((v64 (v4.toNat:Int))*2^24)))) (v64 ((v64 (v5.toNat:Int))*2^32)))) (v64 ((v64 (v6.toNat:Int))*2^40)))) (v64 ((v64 (v7.toNat:Int))*2^48)))) (v64 ((v64 (v8.toNat:Int))*2^56))))
noncomputable def Qp (y13:Str):Option (Str⊕Str):=
 (bif (decide ((y13.length:Int)>32)) then (sub' y13 8 (y13.length:Int)).bind fun v14=>(sub' y13 16 (y13.length:Int)).bind fun v15=>(sub' y13 24 (y13.length:Int)).bind fun v16=>(qy y13).bind fun v17=>(qy v14).bind fun v18=>(qy v15).bind fun v19=>(qy v16).bind fun v20=>(bif ((v64 (band 64 (v64 (bor 64 (v64 (bor 64 v17 v18)) (v64 (bor 64 v19 v20)))) 9259542123273814144))==0) then (sub' y13 32 (y13.length:Int)).bind fun v21=>some (.inl v21) else some (.inr y13)) else some (.inr y13))
noncomputable def Qi (y2:Str):Option (Str⊕(Unit⊕Unit)):=
 (bif (decide ((y2.length:Int)>0)) then (at' y2 0).bind fun v3=>(bif (decide ((v3.toNat:Int)<128)) then (sub' y2 1 (y2.length:Int)).bind fun v4=>((bif (decide ((v4.length:Int)>8)) then (qy v4).bind fun v5=>some ((v64 (band 64 v5 9259542123273814144))==0) else some false):Option (Bool)).bind (fun (q6:Bool)=>(bif q6 then (sub' v4 8 (v4.length:Int)).bind fun v7=>((bif (decide ((v7.length:Int)>16)) then (sub' v7 8 (v7.length:Int)).bind fun v8=>(qy v7).bind fun v9=>(qy v8).bind fun v10=>some ((v64 (band 64 (v64 (bor 64 v9 v10)) 9259542123273814144))==0) else some false):Option (Bool)).bind (fun (q11:Bool)=>(bif q11 then (sub' v7 16 (v7.length:Int)).bind fun v12=>(iter (Qp) v12).bind (fun (q22:Str)=>some (.inl q22)) else some (.inl v7))) else some (.inl v4))) else (at' utf8First (v3.toNat:Int)).bind fun v23=>(at' utf8Ranges ((u8 ((v23.toNat:Int).fdiv (2^4))).toNat:Int)).bind fun v24=>(bif ((w64 ((u8 (band 8 (v23.toNat:Int) 7)).toNat:Int))==2) then (bif (decide ((y2.length:Int)<2)) then some (.inr (Sum.inl ())) else (at' y2 1).bind fun v25=>(bif (decide ((v25.toNat:Int)<(v24.lo.toNat:Int))) then some (.inr (Sum.inl ())) else (at' y2 1).bind fun v26=>(bif (decide ((v24.hi.toNat:Int)<(v26.toNat:Int))) then some (.inr (Sum.inl ())) else (sub' y2 2 (y2.length:Int)).bind fun v27=>some (.inl v27)))) else (bif ((w64 ((u8 (band 8 (v23.toNat:Int) 7)).toNat:Int))==3) then (bif (decide ((y2.length:Int)<3)) then some (.inr (Sum.inl ())) else (at' y2 1).bind fun v28=>(bif (decide ((v28.toNat:Int)<(v24.lo.toNat:Int))) then some (.inr (Sum.inl ())) else (at' y2 1).bind fun v29=>(bif (decide ((v24.hi.toNat:Int)<(v29.toNat:Int))) then some (.inr (Sum.inl ())) else (at' y2 2).bind fun v30=>(bif (decide ((v30.toNat:Int)<128)) then some (.inr (Sum.inl ())) else (at' y2 2).bind fun v31=>(bif (decide (191<(v31.toNat:Int))) then some (.inr (Sum.inl ())) else (sub' y2 3 (y2.length:Int)).bind fun v32=>some (.inl v32)))))) else (bif ((w64 ((u8 (band 8 (v23.toNat:Int) 7)).toNat:Int))==4) then (bif (decide ((y2.length:Int)<4)) then some (.inr (Sum.inl ())) else (at' y2 1).bind fun v33=>(bif (decide ((v33.toNat:Int)<(v24.lo.toNat:Int))) then some (.inr (Sum.inl ())) else (at' y2 1).bind fun v34=>(bif (decide ((v24.hi.toNat:Int)<(v34.toNat:Int))) then some (.inr (Sum.inl ())) else (at' y2 2).bind fun v35=>(bif (decide ((v35.toNat:Int)<128)) then some (.inr (Sum.inl ())) else (at' y2 2).bind fun v36=>(bif (decide (191<(v36.toNat:Int))) then some (.inr (Sum.inl ())) else (at' y2 3).bind fun v37=>(bif (decide ((v37.toNat:Int)<128)) then some (.inr (Sum.inl ())) else (at' y2 3).bind fun v38=>(bif (decide (191<(v38.toNat:Int))) then some (.inr (Sum.inl ())) else (sub' y2 4 (y2.length:Int)).bind fun v39=>some (.inl v39)))))))) else some (.inr (Sum.inl ())))))) else some (.inr (Sum.inr ())))
noncomputable def utf8_Valid (p:Str):Option Bool:=
 (sub3 p 0 (p.length:Int) (p.length:Int)).bind fun v1=>(iter (Qi) v1).bind (Sum.elim (fun (q40:Unit)=>some false) (fun (q41:Unit)=>some true))
noncomputable def utf_Valid (b:Str):Option Bool:=
 (utf8_Valid b).bind fun v1=>some v1
noncomputable def ZL (p:Str):Option (Int×Int):=
 (bif (decide ((p.length:Int)<1)) then some (65533,0) else (at' p 0).bind fun v1=>(at' utf8First (v1.toNat:Int)).bind fun v2=>(bif (decide ((v2.toNat:Int)≥240)) then (at' p 0).bind fun v3=>some ((w32 (bor 32 (w32 (bandn 32 (w32 (v3.toNat:Int)) ((w32 ((w32 (v2.toNat:Int))*2^31)).fdiv (2^31)))) (w32 (band 32 65533 ((w32 ((w32 (v2.toNat:Int))*2^31)).fdiv (2^31)))))),1) else (at' utf8Ranges ((u8 ((v2.toNat:Int).fdiv (2^4))).toNat:Int)).bind fun v4=>(bif (decide ((p.length:Int)<(w64 ((u8 (band 8 (v2.toNat:Int) 7)).toNat:Int)))) then some (65533,1) else (at' p 1).bind fun v5=>((bif (decide ((v5.toNat:Int)<(v4.lo.toNat:Int))) then some true else some (decide ((v4.hi.toNat:Int)<(v5.toNat:Int)))):Option (Bool)).bind (fun (q6:Bool)=>(bif q6 then some (65533,1) else (bif (decide ((w64 ((u8 (band 8 (v2.toNat:Int) 7)).toNat:Int))≤2)) then some ((w32 (bor 32 (w32 ((w32 ((u8 (band 8 (v1.toNat:Int) 31)).toNat:Int))*2^6)) (w32 ((u8 (band 8 (v5.toNat:Int) 63)).toNat:Int)))),2) else (at' p 2).bind fun v7=>((bif (decide ((v7.toNat:Int)<128)) then some true else some (decide (191<(v7.toNat:Int)))):Option (Bool)).bind (fun (q8:Bool)=>(bif q8 then some (65533,1) else (bif (decide ((w64 ((u8 (band 8 (v2.toNat:Int) 7)).toNat:Int))≤3)) then some ((w32 (bor 32 (w32 (bor 32 (w32 ((w32 ((u8 (band 8 (v1.toNat:Int) 15)).toNat:Int))*2^12)) (w32 ((w32 ((u8 (band 8 (v5.toNat:Int) 63)).toNat:Int))*2^6)))) (w32 ((u8 (band 8 (v7.toNat:Int) 63)).toNat:Int)))),3) else (at' p 3).bind fun v9=>((bif (decide ((v9.toNat:Int)<128)) then some true else some (decide (191<(v9.toNat:Int)))):Option (Bool)).bind (fun (q10:Bool)=>(bif q10 then some (65533,1) else some ((w32 (bor 32 (w32 (bor 32 (w32 (bor 32 (w32 ((w32 ((u8 (band 8 (v1.toNat:Int) 7)).toNat:Int))*2^18)) (w32 ((w32 ((u8 (band 8 (v5.toNat:Int) 63)).toNat:Int))*2^12)))) (w32 ((w32 ((u8 (band 8 (v7.toNat:Int) 63)).toNat:Int))*2^6)))) (w32 ((u8 (band 8 (v9.toNat:Int) 63)).toNat:Int)))),4))))))))))))
noncomputable def QF (p:Str)(y1:Unit):Option (Unit⊕(Int⊕Unit)):=
 (bif (decide (0<(p.length:Int))) then (at' p 0).bind fun v2=>(bif (decide ((v2.toNat:Int)<128)) then some (.inr (Sum.inl (w32 (v2.toNat:Int)))) else some (.inr (Sum.inr ()))) else some (.inr (Sum.inr ())))
noncomputable def Q2 (p:Str):Option (Int×Int):=
 (iter (QF p) ()).bind (Sum.elim (fun (q3:Int)=>some (q3,1)) (fun (q4:Unit)=>(ZL p).bind fun v5=>some (v5.1,v5.2)))
noncomputable def QK (b:Str)(y2:Int×(List Int)):Option ((Int×(List Int))⊕(List Int)):=
 (bif (decide (y2.1<(b.length:Int))) then (sub' b y2.1 (b.length:Int)).bind fun v3=>(Q2 v3).bind fun v4=>(app 4 y2.2 [v4.1]).bind fun v5=>some (.inl ((w64 (y2.1+v4.2)),v5)) else some (.inr y2.2))
noncomputable def utf_Chars (b:Str):Option ((List Int)×Bool):=
 (utf_Valid b).bind fun v1=>(bif (!v1) then some ([],false) else (iter (QK b) (0,[])).bind (fun (q6:(List Int))=>some (q6,true)))
noncomputable def utf_Xml (r_:Int):Option Bool:=
 ((bif (r_==9) then (bif (r_==9) then some (Sum.inl ()) else some (Sum.inr ())) else (bif (r_==10) then (bif (r_==10) then some (Sum.inl ()) else some (Sum.inr ())) else (bif (r_==13) then some (Sum.inl ()) else some (Sum.inr ())))):Option (Unit⊕Unit)).bind (Sum.elim (fun (q1:Unit)=>some true) (fun (q2:Unit)=>(bif (decide (r_≥32)) then (bif (decide (r_≤55295)) then some true else (bif (decide (r_≥57344)) then (bif (decide (r_≤65533)) then some true else (bif (decide (r_≥65536)) then some (decide (r_≤1114111)) else some false)) else (bif (decide (r_≥65536)) then some (decide (r_≤1114111)) else some false))) else (bif (decide (r_≥57344)) then (bif (decide (r_≤65533)) then some true else (bif (decide (r_≥65536)) then some (decide (r_≤1114111)) else some false)) else (bif (decide (r_≥65536)) then some (decide (r_≤1114111)) else some false)))))
noncomputable def JK (v1:(List Int)×Bool)(y2:Bool×Int):Option ((Bool×Int)⊕Bool):=
 (bif (decide (y2.2<(v1.1.length:Int))) then (at' v1.1 y2.2).bind fun v3=>(bif y2.1 then (utf_Xml v3).bind fun v4=>some (.inl (v4,(w64 (y2.2+1)))) else some (.inl (false,(w64 (y2.2+1))))) else some (.inr y2.1))
noncomputable def utf_Text (b:Str):Option Bool:=
 (utf_Chars b).bind fun v1=>(iter (JK v1) (v1.2,0)).bind (fun (q5:Bool)=>some q5)
noncomputable def Jv (s:Str)(sep:Str):Option Int:=
 bif decide (s.length<4294967281∧1≤sep.length) then some ((Go.Lib.countB ⟨s.toArray⟩ ⟨sep.toArray⟩:Int)) else none
noncomputable def stringslite_Index (s:Str)(sep:Str):Option Int:=
 bif decide (s.length<4294967281) then some (Go.Lib.index s sep) else none
noncomputable def ZQ (s:Str)(substr:Str):Option Int:=
 (stringslite_Index s substr).bind fun v1=>some v1
noncomputable def qU (s:Str):Option (Int×Int):=
 (bif (decide ((s.length:Int)<1)) then some (65533,0) else (at' s 0).bind fun v1=>(at' utf8First (v1.toNat:Int)).bind fun v2=>(bif (decide ((v2.toNat:Int)≥240)) then (at' s 0).bind fun v3=>some ((w32 (bor 32 (w32 (bandn 32 (w32 (v3.toNat:Int)) ((w32 ((w32 (v2.toNat:Int))*2^31)).fdiv (2^31)))) (w32 (band 32 65533 ((w32 ((w32 (v2.toNat:Int))*2^31)).fdiv (2^31)))))),1) else (at' utf8Ranges ((u8 ((v2.toNat:Int).fdiv (2^4))).toNat:Int)).bind fun v4=>(bif (decide ((s.length:Int)<(w64 ((u8 (band 8 (v2.toNat:Int) 7)).toNat:Int)))) then some (65533,1) else (at' s 1).bind fun v5=>((bif (decide ((v5.toNat:Int)<(v4.lo.toNat:Int))) then some true else some (decide ((v4.hi.toNat:Int)<(v5.toNat:Int)))):Option (Bool)).bind (fun (q6:Bool)=>(bif q6 then some (65533,1) else (bif (decide ((w64 ((u8 (band 8 (v2.toNat:Int) 7)).toNat:Int))≤2)) then some ((w32 (bor 32 (w32 ((w32 ((u8 (band 8 (v1.toNat:Int) 31)).toNat:Int))*2^6)) (w32 ((u8 (band 8 (v5.toNat:Int) 63)).toNat:Int)))),2) else (at' s 2).bind fun v7=>((bif (decide ((v7.toNat:Int)<128)) then some true else some (decide (191<(v7.toNat:Int)))):Option (Bool)).bind (fun (q8:Bool)=>(bif q8 then some (65533,1) else (bif (decide ((w64 ((u8 (band 8 (v2.toNat:Int) 7)).toNat:Int))≤3)) then some ((w32 (bor 32 (w32 (bor 32 (w32 ((w32 ((u8 (band 8 (v1.toNat:Int) 15)).toNat:Int))*2^12)) (w32 ((w32 ((u8 (band 8 (v5.toNat:Int) 63)).toNat:Int))*2^6)))) (w32 ((u8 (band 8 (v7.toNat:Int) 63)).toNat:Int)))),3) else (at' s 3).bind fun v9=>((bif (decide ((v9.toNat:Int)<128)) then some true else some (decide (191<(v9.toNat:Int)))):Option (Bool)).bind (fun (q10:Bool)=>(bif q10 then some (65533,1) else some ((w32 (bor 32 (w32 (bor 32 (w32 (bor 32 (w32 ((w32 ((u8 (band 8 (v1.toNat:Int) 7)).toNat:Int))*2^18)) (w32 ((w32 ((u8 (band 8 (v5.toNat:Int) 63)).toNat:Int))*2^12)))) (w32 ((w32 ((u8 (band 8 (v7.toNat:Int) 63)).toNat:Int))*2^6)))) (w32 ((u8 (band 8 (v9.toNat:Int) 63)).toNat:Int)))),4))))))))))))
noncomputable def ZD (s:Str):Option (Int×Int):=
 (bif (!(s==[])) then (at' s 0).bind fun v1=>(bif (decide ((v1.toNat:Int)<128)) then (at' s 0).bind fun v2=>some ((w32 (v2.toNat:Int)),1) else (qU s).bind fun v3=>some (v3.1,v3.2)) else (qU s).bind fun v4=>some (v4.1,v4.2))
noncomputable def qQ (u1:Bool):Option Unit:=
 (bif u1 then some () else some ())
noncomputable def ZB (u1:Int)(u2:Bool):Option Unit:=
 (mnz (w64 ((w64 (2*0))+u1))).bind fun v1=>(rng (v1:Int) 0 0).bind fun _=>some ()
noncomputable def qx (u1:Int)(u2:Bool):Option Unit:=
 (qQ u2).bind fun v1=>(bif (decide (u1<0)) then none else (bif (decide ((w64 (0-0))<u1)) then (ZB u1 false).bind fun v2=>some () else some ()))
noncomputable def qN (u1:Bool)(u2:Str):Option Unit:=
 (bif u1 then some () else some ())
noncomputable def zc (u1:Str)(u2:Bool)(u3:Str):Option (Int×Str):=
 (qN u2 u3).bind fun v1=>(app 1 u3 u1).bind fun v2=>some ((u1.length:Int),v2)
noncomputable def zv (u1:Bool)(u2:Str):Option Str:=
 (unsf u2).bind fun v1=>some v1
noncomputable def Zp (s:Str)(old:Str)(new:Str)(v2:Int)(y5:Int×Int×Str):Option ((Int×Int×Str)⊕(Int×Str)):=
 (bif (decide (y5.2.1<v2)) then (sub' s y5.1 (s.length:Int)).bind fun v6=>(ZQ v6 old).bind fun v7=>(sub' s y5.1 (w64 (y5.1+v7))).bind fun v8=>(zc v8 false y5.2.2).bind fun v9=>(zc new false v9.2).bind fun v10=>some (.inl ((w64 ((w64 (y5.1+v7))+(old.length:Int))),(w64 (y5.2.1+1)),v10.2)) else some (.inr (y5.1,y5.2.2)))
noncomputable def strings_Replace_b2 (s:Str)(new:Str)(v2:Int)(y16:Int×Int×Str):Option ((Int×Int×Str)⊕(Int×Str)):=
 (bif (decide (y16.2.1<(w64 (v2-1)))) then (sub' s y16.1 (s.length:Int)).bind fun v17=>(ZD v17).bind fun v18=>(sub' s y16.1 (w64 (y16.1+v18.2))).bind fun v19=>(zc v19 false y16.2.2).bind fun v20=>(zc new false v20.2).bind fun v21=>some (.inl ((w64 (y16.1+v18.2)),(w64 (y16.2.1+1)),v21.2)) else some (.inr (y16.1,y16.2.2)))
noncomputable def strings_Replace_b3 (s:Str)(old:Str)(new:Str)(n:Int)(y27:Int×Int×Str):Option ((Int×Int×Str)⊕(Int×Str)):=
 (bif (decide (y27.2.1<n)) then (sub' s y27.1 (s.length:Int)).bind fun v28=>(ZQ v28 old).bind fun v29=>(sub' s y27.1 (w64 (y27.1+v29))).bind fun v30=>(zc v30 false y27.2.2).bind fun v31=>(zc new false v31.2).bind fun v32=>some (.inl ((w64 ((w64 (y27.1+v29))+(old.length:Int))),(w64 (y27.2.1+1)),v32.2)) else some (.inr (y27.1,y27.2.2)))
noncomputable def strings_Replace_b4 (s:Str)(new:Str)(n:Int)(y38:Int×Int×Str):Option ((Int×Int×Str)⊕(Int×Str)):=
 (bif (decide (y38.2.1<(w64 (n-1)))) then (sub' s y38.1 (s.length:Int)).bind fun v39=>(ZD v39).bind fun v40=>(sub' s y38.1 (w64 (y38.1+v40.2))).bind fun v41=>(zc v41 false y38.2.2).bind fun v42=>(zc new false v42.2).bind fun v43=>some (.inl ((w64 (y38.1+v40.2)),(w64 (y38.2.1+1)),v43.2)) else some (.inr (y38.1,y38.2.2)))
noncomputable def QZ (s:Str)(old:Str)(new:Str)(n:Int):Option Str:=
 ((bif (old==new) then some true else some (n==0)):Option (Bool)).bind (fun (q1:Bool)=>(bif q1 then some s else (Jv s old).bind fun v2=>(bif (v2==0) then some s else ((bif (decide (n<0)) then some true else some (decide (v2<n))):Option (Bool)).bind (fun (q3:Bool)=>(bif q3 then (qx (w64 ((s.length:Int)+(w64 (v2*(w64 ((new.length:Int)-(old.length:Int))))))) true).bind fun v4=>(bif (decide ((old.length:Int)>0)) then (iter (Zp s old new v2) (0,0,[])).bind (fun (q11:Int×Str)=>(sub' s q11.1 (s.length:Int)).bind fun v12=>(zc v12 false q11.2).bind fun v13=>(zv false v13.2).bind fun v14=>some v14) else (zc new false []).bind fun v15=>(iter (strings_Replace_b2 s new v2) (0,0,v15.2)).bind (fun (q22:Int×Str)=>(sub' s q22.1 (s.length:Int)).bind fun v23=>(zc v23 false q22.2).bind fun v24=>(zv false v24.2).bind fun v25=>some v25)) else (qx (w64 ((s.length:Int)+(w64 (n*(w64 ((new.length:Int)-(old.length:Int))))))) true).bind fun v26=>(bif (decide ((old.length:Int)>0)) then (iter (strings_Replace_b3 s old new n) (0,0,[])).bind (fun (q33:Int×Str)=>(sub' s q33.1 (s.length:Int)).bind fun v34=>(zc v34 false q33.2).bind fun v35=>(zv false v35.2).bind fun v36=>some v36) else (zc new false []).bind fun v37=>(iter (strings_Replace_b4 s new n) (0,0,v37.2)).bind (fun (q44:Int×Str)=>(sub' s q44.1 (s.length:Int)).bind fun v45=>(zc v45 false q44.2).bind fun v46=>(zv false v46.2).bind fun v47=>some v47)))))))
noncomputable def Z0 (s:Str)(old:Str)(new:Str):Option Str:=
 (QZ s old new (-1)).bind fun v1=>some v1
noncomputable def chars_Lines (s:Str):Option Str:=
 (Z0 s [13,10] [10]).bind fun v1=>(Z0 v1 [13] [10]).bind fun v2=>some v2
noncomputable def ZX (c:UInt8):Option Bool:=
 (bif ((c.toNat:Int)==32) then some true else (bif ((c.toNat:Int)==9) then some true else (bif ((c.toNat:Int)==10) then some true else some ((c.toNat:Int)==13))))
noncomputable def qI (s:Str)(prefix_:Str):Option Bool:=
 (bif (decide ((s.length:Int)≥(prefix_.length:Int))) then (sub' s 0 (prefix_.length:Int)).bind fun v1=>some (v1==prefix_) else some false)
noncomputable def ZC (s:Str)(prefix_:Str):Option Bool:=
 (qI s prefix_).bind fun v1=>some v1
noncomputable def Z3 (s:Str)(prefix_:Str):Option (Str×Bool):=
 (qI s prefix_).bind fun v1=>(bif (!v1) then some (s,false) else (sub' s (prefix_.length:Int) (s.length:Int)).bind fun v2=>some (v2,true))
noncomputable def qZ (s:Str)(prefix_:Str):Option (Str×Bool):=
 (Z3 s prefix_).bind fun v1=>some (v1.1,v1.2)
noncomputable def qj (s:Str)(substr:Str):Option Bool:=
 (ZQ s substr).bind fun v1=>some (decide (v1≥0))
noncomputable def Jy (s:Str)(sep:Str):Option (Str×Str×Bool):=
 (stringslite_Index s sep).bind fun v1=>(bif (decide (v1≥0)) then (sub' s 0 v1).bind fun v2=>(sub' s (w64 (v1+(sep.length:Int))) (s.length:Int)).bind fun v3=>some (v2,v3,true) else some (s,[],false))
noncomputable def qc (s:Str)(sep:Str):Option (Str×Str×Bool):=
 (Jy s sep).bind fun v1=>some (v1.1,v1.2.1,v1.2.2)
noncomputable def Qh (s:Str)(y1:Int×Str):Option ((Int×Str)⊕Str):=
 (bif (decide (y1.1<(s.length:Int))) then (at' y1.2 y1.1).bind fun v2=>(bif (decide ((v2.toNat:Int)≥65)) then (bif (decide ((v2.toNat:Int)≤90)) then (at' y1.2 y1.1).bind fun v3=>(put y1.2 y1.1 ((v2+97)-65)).bind fun v4=>some (.inl ((w64 (y1.1+1)),v4)) else some (.inl ((w64 (y1.1+1)),y1.2))) else some (.inl ((w64 (y1.1+1)),y1.2))) else some (.inr y1.2))
noncomputable def parse_fold (s:Str):Option Str:=
 (iter (Qh s) (0,s)).bind (fun (q5:Str)=>some q5)
noncomputable def Jk (r_:Int)(l:(List zZ))(y1:Int):Option (Int⊕(Unit⊕Unit)):=
 (bif (decide (y1<(l.length:Int))) then (at' l y1).bind fun v2=>(bif (decide (r_≥v2.from_)) then (bif (decide (r_≤v2.to_)) then some (.inr (Sum.inl ())) else some (.inl (w64 (y1+1)))) else some (.inl (w64 (y1+1)))) else some (.inr (Sum.inr ())))
noncomputable def name_in (r_:Int)(l:(List zZ)):Option Bool:=
 (iter (Jk r_ l) 0).bind (Sum.elim (fun (q3:Unit)=>some true) (fun (q4:Unit)=>some false))
noncomputable def JJ (r_:Int):Option Bool:=
 (bif (r_==95) then some true else (name_in r_ [(zZ.mk 65 90),(zZ.mk 97 122),(zZ.mk 192 214),(zZ.mk 216 246),(zZ.mk 248 767),(zZ.mk 880 893),(zZ.mk 895 8191),(zZ.mk 8204 8205),(zZ.mk 8304 8591),(zZ.mk 11264 12271),(zZ.mk 12289 55295),(zZ.mk 63744 64975),(zZ.mk 65008 65533),(zZ.mk 65536 983039)]).bind fun v1=>some v1)
noncomputable def JM (r_:Int):Option Bool:=
 (JJ r_).bind fun v1=>(bif v1 then some true else (bif (r_==45) then some true else (bif (r_==46) then some true else (bif (r_==183) then some true else (name_in r_ [(zZ.mk 48 57),(zZ.mk 768 879),(zZ.mk 8255 8256)]).bind fun v2=>some v2))))
noncomputable def Jl (v1:(List Int)×Bool)(y4:Int):Option (Int⊕(Unit⊕Unit)):=
 (bif (decide (y4<(v1.1.length:Int))) then (at' v1.1 y4).bind fun v5=>(JM v5).bind fun v6=>(bif (!v6) then some (.inr (Sum.inl ())) else some (.inl (w64 (y4+1)))) else some (.inr (Sum.inr ())))
noncomputable def QR (s:Str):Option Bool:=
 (utf_Chars s).bind fun v1=>(bif (!v1.2) then some false else (bif ((v1.1.length:Int)==0) then some false else (at' v1.1 0).bind fun v2=>(JJ v2).bind fun v3=>(bif (!v3) then some false else (iter (Jl v1) 0).bind (Sum.elim (fun (q7:Unit)=>some false) (fun (q8:Unit)=>some true)))))
noncomputable def name_Split (s:Str):Option (Str×Str×Bool):=
 (qc s [58]).bind fun v1=>(bif (!v1.2.2) then (bif v1.2.2 then (QR []).bind fun v2=>(bif (!v2) then some ([],[],false) else (QR s).bind fun v3=>(bif (!v3) then some ([],[],false) else some ([],s,true))) else (QR s).bind fun v4=>(bif (!v4) then some ([],[],false) else some ([],s,true))) else (bif v1.2.2 then (QR v1.1).bind fun v5=>(bif (!v5) then some ([],[],false) else (QR v1.2.1).bind fun v6=>(bif (!v6) then some ([],[],false) else some (v1.1,v1.2.1,true))) else (QR v1.2.1).bind fun v7=>(bif (!v7) then some ([],[],false) else some (v1.1,v1.2.1,true))))
noncomputable def atomic_b32 (b:Bool):Option Int:=
 (bif b then some 1 else some 0)
noncomputable def chars_named (s:Str):Option (Str×Bool):=
 (bif (s==[108,116]) then some ([60],true) else (bif (s==[103,116]) then some ([62],true) else (bif (s==[97,109,112]) then some ([38],true) else (bif (s==[97,112,111,115]) then some ([39],true) else (bif (s==[113,117,111,116]) then some ([34],true) else some ([],false))))))
noncomputable def qa (s:Str)(base:Int)(y1:Int×Int):Option ((Int×Int)⊕(Unit⊕Int)):=
 (bif (decide (y1.2<(s.length:Int))) then (at' s y1.2).bind fun v2=>((bif (decide ((w32 (v2.toNat:Int))≥48)) then some (decide ((w32 (v2.toNat:Int))≤57)) else some false):Option (Bool)).bind (fun (q3:Bool)=>(bif q3 then (bif (decide ((w32 ((w32 (v2.toNat:Int))-48))≥base)) then some (.inr (Sum.inl ())) else some (.inl ((mn (w32 ((w32 (y1.1*base))+(w32 ((w32 (v2.toNat:Int))-48)))) 1114112),(w64 (y1.2+1))))) else ((bif (decide ((w32 (v2.toNat:Int))≥97)) then some (decide ((w32 (v2.toNat:Int))≤102)) else some false):Option (Bool)).bind (fun (q4:Bool)=>(bif q4 then (bif (decide ((w32 ((w32 ((w32 (v2.toNat:Int))-97))+10))≥base)) then some (.inr (Sum.inl ())) else some (.inl ((mn (w32 ((w32 (y1.1*base))+(w32 ((w32 ((w32 (v2.toNat:Int))-97))+10)))) 1114112),(w64 (y1.2+1))))) else (bif (decide ((w32 (v2.toNat:Int))≥65)) then (bif (decide ((w32 (v2.toNat:Int))≤70)) then (bif (decide ((w32 ((w32 ((w32 (v2.toNat:Int))-65))+10))≥base)) then some (.inr (Sum.inl ())) else some (.inl ((mn (w32 ((w32 (y1.1*base))+(w32 ((w32 ((w32 (v2.toNat:Int))-65))+10)))) 1114112),(w64 (y1.2+1))))) else (bif (decide (base≥base)) then some (.inr (Sum.inl ())) else some (.inl ((mn (w32 ((w32 (y1.1*base))+base)) 1114112),(w64 (y1.2+1)))))) else (bif (decide (base≥base)) then some (.inr (Sum.inl ())) else some (.inl ((mn (w32 ((w32 (y1.1*base))+base)) 1114112),(w64 (y1.2+1)))))))))) else some (.inr (Sum.inr y1.1)))
noncomputable def QQ (s:Str)(base:Int):Option (Int×Bool):=
 (iter (qa s base) (0,0)).bind (Sum.elim (fun (q5:Unit)=>some (0,false)) (fun (q6:Int)=>some (q6,(!(s==[])))))
noncomputable def Jc (r_:Int):Option Bool:=
 (bif (decide (0≤r_)) then (bif (decide (r_<55296)) then some true else (bif (decide (57343<r_)) then (bif (decide (r_≤1114111)) then some true else some false) else some false)) else (bif (decide (57343<r_)) then (bif (decide (r_≤1114111)) then some true else some false) else some false))
noncomputable def ZA (p:Str)(r_:Int):Option Str:=
 (bif (decide ((v32 r_)≤2047)) then (app 1 p [(u8 (bor 8 192 ((u8 (r_.fdiv (2^6))).toNat:Int))),(u8 (bor 8 128 ((u8 (band 8 ((u8 r_).toNat:Int) 63)).toNat:Int)))]).bind fun v1=>some v1 else (bif (decide ((v32 r_)<55296)) then (bif (decide ((v32 r_)<55296)) then (app 1 p [(u8 (bor 8 224 ((u8 (r_.fdiv (2^12))).toNat:Int))),(u8 (bor 8 128 ((u8 (band 8 ((u8 (r_.fdiv (2^6))).toNat:Int) 63)).toNat:Int))),(u8 (bor 8 128 ((u8 (band 8 ((u8 r_).toNat:Int) 63)).toNat:Int)))]).bind fun v2=>some v2 else ((bif (decide ((v32 r_)>65535)) then some (decide ((v32 r_)≤1114111)) else some false):Option (Bool)).bind (fun (q3:Bool)=>(bif q3 then (app 1 p [(u8 (bor 8 240 ((u8 (r_.fdiv (2^18))).toNat:Int))),(u8 (bor 8 128 ((u8 (band 8 ((u8 (r_.fdiv (2^12))).toNat:Int) 63)).toNat:Int))),(u8 (bor 8 128 ((u8 (band 8 ((u8 (r_.fdiv (2^6))).toNat:Int) 63)).toNat:Int))),(u8 (bor 8 128 ((u8 (band 8 ((u8 r_).toNat:Int) 63)).toNat:Int)))]).bind fun v4=>some v4 else (app 1 p [239,191,189]).bind fun v5=>some v5))) else (bif (decide (57343<(v32 r_))) then (bif (decide ((v32 r_)≤65535)) then (app 1 p [(u8 (bor 8 224 ((u8 (r_.fdiv (2^12))).toNat:Int))),(u8 (bor 8 128 ((u8 (band 8 ((u8 (r_.fdiv (2^6))).toNat:Int) 63)).toNat:Int))),(u8 (bor 8 128 ((u8 (band 8 ((u8 r_).toNat:Int) 63)).toNat:Int)))]).bind fun v6=>some v6 else ((bif (decide ((v32 r_)>65535)) then some (decide ((v32 r_)≤1114111)) else some false):Option (Bool)).bind (fun (q7:Bool)=>(bif q7 then (app 1 p [(u8 (bor 8 240 ((u8 (r_.fdiv (2^18))).toNat:Int))),(u8 (bor 8 128 ((u8 (band 8 ((u8 (r_.fdiv (2^12))).toNat:Int) 63)).toNat:Int))),(u8 (bor 8 128 ((u8 (band 8 ((u8 (r_.fdiv (2^6))).toNat:Int) 63)).toNat:Int))),(u8 (bor 8 128 ((u8 (band 8 ((u8 r_).toNat:Int) 63)).toNat:Int)))]).bind fun v8=>some v8 else (app 1 p [239,191,189]).bind fun v9=>some v9))) else ((bif (decide ((v32 r_)>65535)) then some (decide ((v32 r_)≤1114111)) else some false):Option (Bool)).bind (fun (q10:Bool)=>(bif q10 then (app 1 p [(u8 (bor 8 240 ((u8 (r_.fdiv (2^18))).toNat:Int))),(u8 (bor 8 128 ((u8 (band 8 ((u8 (r_.fdiv (2^12))).toNat:Int) 63)).toNat:Int))),(u8 (bor 8 128 ((u8 (band 8 ((u8 (r_.fdiv (2^6))).toNat:Int) 63)).toNat:Int))),(u8 (bor 8 128 ((u8 (band 8 ((u8 r_).toNat:Int) 63)).toNat:Int)))]).bind fun v11=>some v11 else (app 1 p [239,191,189]).bind fun v12=>some v12)))))
noncomputable def Q1 (p:Str)(r_:Int):Option Str:=
 (bif (decide ((v32 r_)≤127)) then (app 1 p [(u8 r_)]).bind fun v1=>some v1 else (ZA p r_).bind fun v2=>some v2)
noncomputable def utf_Bytes_b1 (l:(List Int))(y1:Int×Str):Option ((Int×Str)⊕(Unit⊕Str)):=
 (bif (decide (y1.1<(l.length:Int))) then (at' l y1.1).bind fun v2=>(Jc v2).bind fun v3=>(bif (!v3) then some (.inr (Sum.inl ())) else (Q1 y1.2 v2).bind fun v4=>some (.inl ((w64 (y1.1+1)),v4))) else some (.inr (Sum.inr y1.2)))
noncomputable def utf_Bytes (l:(List Int)):Option (Str×Bool):=
 (iter (utf_Bytes_b1 l) (0,[])).bind (Sum.elim (fun (q5:Unit)=>some ([],false)) (fun (q6:Str)=>some (q6,true)))
noncomputable def Qb (s:Str):Option (Str×Bool):=
 (qZ s [35]).bind fun v1=>(bif (!v1.2) then (chars_named s).bind fun v2=>some (v2.1,v2.2) else (qZ v1.1 [120]).bind fun v3=>(bif v3.2 then (QQ v3.1 16).bind fun v4=>(bif (!v4.2) then some ([],false) else (utf_Xml v4.1).bind fun v5=>(bif (!v5) then some ([],false) else (utf_Bytes [v4.1]).bind fun v6=>some (v6.1,v6.2))) else (QQ v1.1 10).bind fun v7=>(bif (!v7.2) then some ([],false) else (utf_Xml v7.1).bind fun v8=>(bif (!v8) then some ([],false) else (utf_Bytes [v7.1]).bind fun v9=>some (v9.1,v9.2)))))
noncomputable def qn (s:Str)(plain:(Str→Option Str))(y4:Unit⊕(Str×Str)):Option ((Unit⊕(Str×Str))⊕(Str×Bool)):=
 (Sum.elim (fun (y4:Unit)=>(qc s [38]).bind fun v5=>(plain v5.1).bind fun v6=>(zc v6 true []).bind fun v7=>(bif (!v5.2.2) then (zv false v7.2).bind fun v8=>some (.inr (v8,true)) else (qc v5.2.1 [59]).bind fun v9=>(Qb v9.1).bind fun v10=>(bif (!v9.2.2) then some (.inr ([],false)) else (bif (!v10.2) then some (.inr ([],false)) else (zc v10.1 false v7.2).bind fun v11=>some (.inl (Sum.inr (v9.2.1,v11.2))))))) (fun (y4:Str×Str)=>(qc y4.1 [38]).bind fun v12=>(plain v12.1).bind fun v13=>(zc v13 false y4.2).bind fun v14=>(bif (!v12.2.2) then (zv false v14.2).bind fun v15=>some (.inr (v15,true)) else (qc v12.2.1 [59]).bind fun v16=>(Qb v16.1).bind fun v17=>(bif (!v16.2.2) then some (.inr ([],false)) else (bif (!v17.2) then some (.inr ([],false)) else (zc v17.1 false v14.2).bind fun v18=>some (.inl (Sum.inr (v16.2.1,v18.2)))))))) y4
noncomputable def chars_expand (s:Str)(plain:(Str→Option Str)):Option (Str×Bool):=
 ((utf_Text s).bind fun v1=>(bif (!v1) then some true else (qj s [60]).bind fun v2=>some v2):Option (Bool)).bind (fun (q3:Bool)=>(bif q3 then some ([],false) else (iter (qn s plain) (Sum.inl ())).bind (fun (q19:Str×Bool)=>some (q19.1,q19.2))))
noncomputable def qX (u1:(List Str)):Option (List Str):=
 (bif (((u1.length:Int).tmod 2)==1) then none else (app 16 [] u1).bind fun v1=>some v1)
noncomputable def Qv (u1:(List Str)):Option Unit:=
 some ()
noncomputable def QO (u1:(List Str)):Option Unit:=
 some ()
noncomputable def Qe (u1:(List Str)):Option Unit:=
 (QO u1).bind fun v1=>some ()
noncomputable def Qs (u1:(List Str)):Option Unit:=
 some ()
noncomputable def ZG (u1:(List Str))(y5:Bool×Int):Option ((Bool×Int)⊕Bool):=
 (bif (decide (y5.2<(u1.length:Int))) then (at' u1 y5.2).bind fun v6=>(bif ((v6.length:Int) != 1) then none else (at' u1 (w64 (y5.2+1))).bind fun v7=>(bif ((v7.length:Int) != 1) then some (.inl (false,(w64 (y5.2+2)))) else some (.inl (y5.1,(w64 (y5.2+2)))))) else some (.inr y5.1))
noncomputable def ZH (y9:Int×Str):Option ((Int×Str)⊕Str):=
 (bif (decide (y9.1<256)) then (atA 256 y9.2 y9.1).bind fun v10=>(put y9.2 y9.1 (u8 y9.1)).bind fun v11=>some (.inl ((w64 (y9.1+1)),v11)) else some (.inr y9.2))
noncomputable def ZE (u1:(List Str))(y13:Int×Str):Option ((Int×Str)⊕Str):=
 (bif (decide (y13.1≥0)) then (at' u1 y13.1).bind fun v14=>(at' v14 0).bind fun v15=>(at' u1 (w64 (y13.1+1))).bind fun v16=>(at' v16 0).bind fun v17=>(atA 256 y13.2 (v15.toNat:Int)).bind fun v18=>(put y13.2 (v15.toNat:Int) v17).bind fun v19=>some (.inl ((w64 (y13.1-2)),v19)) else some (.inr y13.2))
noncomputable def qC (u1:(List Str)):Option Str:=
 ((bif ((u1.length:Int)==2) then (at' u1 0).bind fun v1=>some (decide ((v1.length:Int)>1)) else some false):Option (Bool)).bind (fun (q2:Bool)=>(bif q2 then none else (iter (ZG u1) (true,0)).bind (fun (q8:Bool)=>(bif q8 then (iter (ZH) (0,(List.replicate 256 0))).bind (fun (q12:Str)=>(iter (ZE u1) ((w64 ((u1.length:Int)-2)),q12)).bind (fun (q20:Str)=>some q20)) else none))))
noncomputable def qF (u1:(List Str)):Option Str:=
 (qC u1).bind fun v1=>some v1
noncomputable def Jb (u1:Str):Option Unit:=
 some ()
noncomputable def Ji (u1:Str):Option Unit:=
 some ()
noncomputable def QJ (u1:Str):Option Unit:=
 (Ji u1).bind fun v1=>some ()
noncomputable def Qt (u1:(List Str)):Option Str:=
 (Qe u1).bind fun v1=>(Qs u1).bind fun v2=>(qF u1).bind fun v3=>(Jb v3).bind fun v4=>(QJ v3).bind fun v5=>some v3
noncomputable def Q0 (u1:(List Str)):Option Str:=
 (Qv u1).bind fun v1=>(Qt u1).bind fun v2=>some v2
noncomputable def zk (u1:Str)(u2:Str)(y1:Int⊕(Int×Str)):Option ((Int⊕(Int×Str))⊕(Unit⊕Str)):=
 (Sum.elim (fun (y1:Int)=>(bif (decide (y1<(u1.length:Int))) then (at' u1 y1).bind fun v2=>(atA 256 u2 (v2.toNat:Int)).bind fun v3=>(bif ((v3.toNat:Int) != (v2.toNat:Int)) then (atA 256 u2 (v2.toNat:Int)).bind fun v4=>(at' u1 y1).bind fun v5=>(put u1 y1 v4).bind fun v6=>some (.inl (Sum.inr ((w64 (y1+1)),v6))) else some (.inl (Sum.inl (w64 (y1+1))))) else some (.inr (Sum.inl ())))) (fun (y1:Int×Str)=>(bif (decide (y1.1<(u1.length:Int))) then (at' u1 y1.1).bind fun v7=>(atA 256 u2 (v7.toNat:Int)).bind fun v8=>(bif ((v8.toNat:Int) != (v7.toNat:Int)) then (ne0 y1.2).bind fun v9=>(atA 256 u2 (v7.toNat:Int)).bind fun v10=>(at' y1.2 y1.1).bind fun v11=>(put y1.2 y1.1 v10).bind fun v12=>some (.inl (Sum.inr ((w64 (y1.1+1)),v12))) else some (.inl (Sum.inr ((w64 (y1.1+1)),y1.2)))) else some (.inr (Sum.inr y1.2))))) y1
noncomputable def zR (u1:Str)(u2:Str):Option Str:=
 (iter (zk u1 u2) (Sum.inl 0)).bind (Sum.elim (fun (q13:Unit)=>some u1) (fun (q14:Str)=>(ne0 q14).bind fun v15=>some q14))
noncomputable def qu (u1:Str)(u2:(List Str)):Option (Str×Str):=
 (Q0 u2).bind fun v1=>(zR u1 v1).bind fun v2=>some (v2,v1)
noncomputable def Qu (u1:Str):Option Unit:=
 some ()
noncomputable def JC (u1:Str):Option Unit:=
 (Qu u1).bind fun v1=>some ()
noncomputable def qf (u1:Str)(u2:Str):Option Str:=
 (JC u2).bind fun v1=>(zR u1 u2).bind fun v2=>some v2
noncomputable def z6 (u1:Str)(u2:(List Str))(y4:Unit⊕(Str×Str×Str)):Option ((Unit⊕(Str×Str×Str))⊕(Str×Bool×Str)):=
 (Sum.elim (fun (y4:Unit)=>(qc u1 [38]).bind fun v5=>(qu v5.1 u2).bind fun v6=>(zc v6.1 true []).bind fun v7=>(bif (!v5.2.2) then (zv false v7.2).bind fun v8=>some (.inr (v8,true,v6.2)) else (qc v5.2.1 [59]).bind fun v9=>(Qb v9.1).bind fun v10=>(bif (!v9.2.2) then some (.inr ([],false,v6.2)) else (bif (!v10.2) then some (.inr ([],false,v6.2)) else (zc v10.1 false v7.2).bind fun v11=>some (.inl (Sum.inr (v9.2.1,v6.2,v11.2))))))) (fun (y4:Str×Str×Str)=>(qc y4.1 [38]).bind fun v12=>(qf v12.1 y4.2.1).bind fun v13=>(zc v13 false y4.2.2).bind fun v14=>(bif (!v12.2.2) then (zv false v14.2).bind fun v15=>some (.inr (v15,true,y4.2.1)) else (qc v12.2.1 [59]).bind fun v16=>(Qb v16.1).bind fun v17=>(bif (!v16.2.2) then some (.inr ([],false,y4.2.1)) else (bif (!v17.2) then some (.inr ([],false,y4.2.1)) else (zc v17.1 false v14.2).bind fun v18=>some (.inl (Sum.inr (v16.2.1,y4.2.1,v18.2)))))))) y4
noncomputable def JA (u1:Str)(u2:(List Str)):Option (Str×Bool):=
 ((utf_Text u1).bind fun v1=>(bif (!v1) then some true else (qj u1 [60]).bind fun v2=>some v2):Option (Bool)).bind (fun (q3:Bool)=>(bif q3 then some ([],false) else (iter (z6 u1 u2) (Sum.inl ())).bind (fun (q19:Str×Bool×Str)=>some (q19.1,q19.2.1))))
noncomputable def chars_Value (s:Str):Option (Str×Bool):=
 (qX [[9],[32],[10],[32],[13],[32]]).bind fun v1=>(JA s v1).bind fun v2=>some (v2.1,v2.2)
noncomputable def Q4 (s:Str)(c:UInt8):Option Int:=
 some (indexByte s c)
noncomputable def Q5 (s:Str)(c:UInt8):Option Int:=
 (Q4 s c).bind fun v1=>some v1
noncomputable def name_Trim_b1 (y1:Str):Option (Str⊕Str):=
 (bif (!(y1==[])) then (at' y1 0).bind fun v2=>(ZX v2).bind fun v3=>(bif v3 then (sub' y1 1 (y1.length:Int)).bind fun v4=>some (.inl v4) else some (.inr y1)) else some (.inr y1))
noncomputable def name_Trim_b2 (y6:Str):Option (Str⊕Str):=
 (bif (!(y6==[])) then (at' y6 (w64 ((y6.length:Int)-1))).bind fun v7=>(ZX v7).bind fun v8=>(bif v8 then (sub' y6 0 (w64 ((y6.length:Int)-1))).bind fun v9=>some (.inl v9) else some (.inr y6)) else some (.inr y6))
noncomputable def name_Trim (s:Str):Option Str:=
 (iter (name_Trim_b1) s).bind (fun (q5:Str)=>(iter (name_Trim_b2) q5).bind (fun (q10:Str)=>some q10))
noncomputable def Ju (x:Str):Option Str:=
 some x
noncomputable def Qm (s:Str):Option (Str×Bool):=
 (qj s [93,93,62]).bind fun v1=>(bif v1 then some ([],false) else (chars_expand s (fun x0=>Ju x0)).bind fun v2=>some (v2.1,v2.2))
noncomputable def doc_bare (x:zd):Option Bool:=
 (bif (x.Prefix==[]) then (bif (x.URI==[]) then (bif ((x.Decls.length:Int)==0) then some ((x.Attrs.length:Int)==0) else some false) else some false) else some false)
noncomputable def Zu (l:(List zd))(n:Int)(y1:Int):Option (Int⊕(Bool⊕Unit)):=
 (bif (decide (y1≥0)) then (at' l n).bind fun v2=>(bif (y1==v2.Parent) then (at' l y1).bind fun v3=>(bif (v3.Kind==0) then some (.inr (Sum.inl true)) else (at' l y1).bind fun v4=>some (.inr (Sum.inl (v4.Kind==1)))) else (at' l y1).bind fun v5=>some (.inl v5.Parent)) else some (.inr (Sum.inr ())))
noncomputable def JE (l:(List zd))(n:Int):Option Bool:=
 (iter (Zu l n) (w64 (n-1))).bind (Sum.elim (fun (q6:Bool)=>some q6) (fun (q7:Unit)=>some false))
noncomputable def JB (o:zz)(p1:zz):Option Bool:=
 some (o.Prefix==p1.Prefix)
noncomputable def zY (s:(List zz))(f:(zz→Option Bool))(y1:Int):Option (Int⊕(Int⊕Unit)):=
 (bif (decide (y1<(s.length:Int))) then (at' s y1).bind fun v2=>(f v2).bind fun v3=>(bif v3 then some (.inr (Sum.inl y1)) else some (.inl (w64 (y1+1)))) else some (.inr (Sum.inr ())))
noncomputable def Z1 (s:(List zz))(f:(zz→Option Bool)):Option Int:=
 (iter (zY s f) 0).bind (Sum.elim (fun (q4:Int)=>some q4) (fun (q5:Unit)=>some (-1)))
noncomputable def qM (s:(List zz))(f:(zz→Option Bool)):Option Bool:=
 (Z1 s f).bind fun v1=>some (decide (v1≥0))
noncomputable def Jn (s:Str):Option Bool:=
 (bif (s==[]) then some true else (QR s).bind fun v1=>some v1)
noncomputable def QW (s:Str):Option Bool:=
 (utf_Text s).bind fun v1=>some v1
noncomputable def ZI (l:(List zz))(y1:Int):Option (Int⊕(Unit⊕Unit)):=
 (bif (decide (y1<(l.length:Int))) then (at' l y1).bind fun v2=>(sub' l 0 y1).bind fun v3=>(qM v3 (fun x0=>JB x0 v2)).bind fun v4=>(bif v4 then some (.inr (Sum.inl ())) else (Jn v2.Prefix).bind fun v5=>(bif (!v5) then some (.inr (Sum.inl ())) else (bif (v2.Prefix==[120,109,108,110,115]) then some (.inr (Sum.inl ())) else (QW v2.URI).bind fun v6=>(bif (!v6) then some (.inr (Sum.inl ())) else (bif (v2.URI==[]) then (bif (!(v2.Prefix==[])) then some (.inr (Sum.inl ())) else (bif (!((v2.Prefix==[120,109,108])==(v2.URI==[104,116,116,112,58,47,47,119,119,119,46,119,51,46,111,114,103,47,88,77,76,47,49,57,57,56,47,110,97,109,101,115,112,97,99,101]))) then some (.inr (Sum.inl ())) else (bif (v2.URI==[104,116,116,112,58,47,47,119,119,119,46,119,51,46,111,114,103,47,50,48,48,48,47,120,109,108,110,115,47]) then some (.inr (Sum.inl ())) else some (.inl (w64 (y1+1)))))) else (bif (!((v2.Prefix==[120,109,108])==(v2.URI==[104,116,116,112,58,47,47,119,119,119,46,119,51,46,111,114,103,47,88,77,76,47,49,57,57,56,47,110,97,109,101,115,112,97,99,101]))) then some (.inr (Sum.inl ())) else (bif (v2.URI==[104,116,116,112,58,47,47,119,119,119,46,119,51,46,111,114,103,47,50,48,48,48,47,120,109,108,110,115,47]) then some (.inr (Sum.inl ())) else some (.inl (w64 (y1+1)))))))))) else some (.inr (Sum.inr ())))
noncomputable def doc_declared (l:(List zz)):Option Bool:=
 (iter (ZI l) 0).bind (Sum.elim (fun (q7:Unit)=>some false) (fun (q8:Unit)=>some true))
noncomputable def doc_means_b2 (p:Str)(v2:zd)(y3:Int):Option (Int⊕(Str⊕Unit)):=
 (bif (decide (y3<(v2.Decls.length:Int))) then (at' v2.Decls y3).bind fun v4=>(bif (v4.Prefix==p) then some (.inr (Sum.inl v4.URI)) else some (.inl (w64 (y3+1)))) else some (.inr (Sum.inr ())))
noncomputable def doc_means_b1 (l:(List zd))(p:Str)(y1:Int):Option (Int⊕(Str⊕Unit)):=
 (bif (decide (y1>0)) then (at' l y1).bind fun v2=>(iter (doc_means_b2 p v2) 0).bind (Sum.elim (fun (q5:Str)=>some (.inr (Sum.inl q5))) (fun (q6:Unit)=>(at' l y1).bind fun v7=>some (.inl v7.Parent))) else some (.inr (Sum.inr ())))
noncomputable def doc_means (l:(List zd))(n:Int)(p:Str):Option (Str×Bool):=
 (bif (p==[120,109,108]) then some ([104,116,116,112,58,47,47,119,119,119,46,119,51,46,111,114,103,47,88,77,76,47,49,57,57,56,47,110,97,109,101,115,112,97,99,101],true) else (iter (doc_means_b1 l p) n).bind (Sum.elim (fun (q8:Str)=>some (q8,true)) (fun (q9:Unit)=>some ([],(p==[])))))
noncomputable def Jr (o:zw)(p1:zw):Option Bool:=
 (bif (o.Local==p1.Local) then some (o.URI==p1.URI) else some false)
noncomputable def zT (s:(List zw))(f:(zw→Option Bool))(y1:Int):Option (Int⊕(Int⊕Unit)):=
 (bif (decide (y1<(s.length:Int))) then (at' s y1).bind fun v2=>(f v2).bind fun v3=>(bif v3 then some (.inr (Sum.inl y1)) else some (.inl (w64 (y1+1)))) else some (.inr (Sum.inr ())))
noncomputable def Z2 (s:(List zw))(f:(zw→Option Bool)):Option Int:=
 (iter (zT s f) 0).bind (Sum.elim (fun (q4:Int)=>some q4) (fun (q5:Unit)=>some (-1)))
noncomputable def qq (s:(List zw))(f:(zw→Option Bool)):Option Bool:=
 (Z2 s f).bind fun v1=>some (decide (v1≥0))
noncomputable def QM (l:(List zd))(n:Int)(v1:zd)(y6:Int):Option (Int⊕(Unit⊕Unit)):=
 (bif (decide (y6<(v1.Attrs.length:Int))) then (at' v1.Attrs y6).bind fun v7=>(doc_means l n v7.Prefix).bind fun v8=>(bif (v7.Prefix==[]) then (sub' v1.Attrs 0 y6).bind fun v9=>(qq v9 (fun x0=>Jr x0 v7)).bind fun v10=>(bif v10 then some (.inr (Sum.inl ())) else (bif (!v8.2) then some (.inr (Sum.inl ())) else (bif (!([]==v7.URI)) then some (.inr (Sum.inl ())) else (QR v7.Local).bind fun v11=>(bif (!v11) then some (.inr (Sum.inl ())) else (Jn v7.Prefix).bind fun v12=>(bif (!v12) then some (.inr (Sum.inl ())) else (bif (v7.Prefix==[120,109,108,110,115]) then some (.inr (Sum.inl ())) else (bif (v7.Prefix==[]) then (bif (v7.Local==[120,109,108,110,115]) then some (.inr (Sum.inl ())) else (QW v7.Value).bind fun v13=>(bif (!v13) then some (.inr (Sum.inl ())) else some (.inl (w64 (y6+1))))) else (QW v7.Value).bind fun v14=>(bif (!v14) then some (.inr (Sum.inl ())) else some (.inl (w64 (y6+1))))))))))) else (sub' v1.Attrs 0 y6).bind fun v15=>(qq v15 (fun x0=>Jr x0 v7)).bind fun v16=>(bif v16 then some (.inr (Sum.inl ())) else (bif (!v8.2) then some (.inr (Sum.inl ())) else (bif (!(v8.1==v7.URI)) then some (.inr (Sum.inl ())) else (QR v7.Local).bind fun v17=>(bif (!v17) then some (.inr (Sum.inl ())) else (Jn v7.Prefix).bind fun v18=>(bif (!v18) then some (.inr (Sum.inl ())) else (bif (v7.Prefix==[120,109,108,110,115]) then some (.inr (Sum.inl ())) else (bif (v7.Prefix==[]) then (bif (v7.Local==[120,109,108,110,115]) then some (.inr (Sum.inl ())) else (QW v7.Value).bind fun v19=>(bif (!v19) then some (.inr (Sum.inl ())) else some (.inl (w64 (y6+1))))) else (QW v7.Value).bind fun v20=>(bif (!v20) then some (.inr (Sum.inl ())) else some (.inl (w64 (y6+1)))))))))))) else some (.inr (Sum.inr ())))
noncomputable def doc_named (l:(List zd))(n:Int):Option Bool:=
 (at' l n).bind fun v1=>(doc_means l n v1.Prefix).bind fun v2=>((bif (!v2.2) then some true else (bif (!(v2.1==v1.URI)) then some true else (QR v1.Local).bind fun v3=>(bif (!v3) then some true else (Jn v1.Prefix).bind fun v4=>(bif (!v4) then some true else some (v1.Prefix==[120,109,108,110,115]))))):Option (Bool)).bind (fun (q5:Bool)=>(bif q5 then some false else (iter (QM l n v1) 0).bind (Sum.elim (fun (q21:Unit)=>some false) (fun (q22:Unit)=>some true))))
noncomputable def Z4 (s:Str)(suffix:Str):Option Bool:=
 (bif (decide ((s.length:Int)≥(suffix.length:Int))) then (sub' s (w64 ((s.length:Int)-(suffix.length:Int))) (s.length:Int)).bind fun v1=>some (v1==suffix) else some false)
noncomputable def Qd (s:Str)(suffix:Str):Option Bool:=
 (Z4 s suffix).bind fun v1=>some v1
noncomputable def JH (s:Str):Option Bool:=
 (bif ((s.length:Int)==3) then (at' s 0).bind fun v1=>(bif ((v1.toNat:Int)==120) then (at' s 1).bind fun v2=>(bif ((v2.toNat:Int)==109) then (at' s 2).bind fun v3=>(bif ((v3.toNat:Int)==108) then some true else (at' s 2).bind fun v4=>some ((v4.toNat:Int)==76)) else (at' s 1).bind fun v5=>(bif ((v5.toNat:Int)==77) then (at' s 2).bind fun v6=>(bif ((v6.toNat:Int)==108) then some true else (at' s 2).bind fun v7=>some ((v7.toNat:Int)==76)) else some false)) else (at' s 0).bind fun v8=>(bif ((v8.toNat:Int)==88) then (at' s 1).bind fun v9=>(bif ((v9.toNat:Int)==109) then (at' s 2).bind fun v10=>(bif ((v10.toNat:Int)==108) then some true else (at' s 2).bind fun v11=>some ((v11.toNat:Int)==76)) else (at' s 1).bind fun v12=>(bif ((v12.toNat:Int)==77) then (at' s 2).bind fun v13=>(bif ((v13.toNat:Int)==108) then some true else (at' s 2).bind fun v14=>some ((v14.toNat:Int)==76)) else some false)) else some false)) else some false)
noncomputable def JG (l:(List zd))(n:Int)(last:Int):Option Bool:=
 (at' l n).bind fun v1=>(bif (v1.Kind==1) then (bif (v1.Text==[]) then (doc_declared v1.Decls).bind fun v2=>(bif v2 then (doc_named l n).bind fun v3=>some v3 else some false) else some false) else (bif (v1.Kind==2) then (doc_bare v1).bind fun v4=>(bif v4 then (bif (v1.Local==[]) then (bif (!(v1.Text==[])) then (QW v1.Text).bind fun v5=>(bif v5 then (bif (decide (last<0)) then some true else (at' l last).bind fun v6=>some (v6.Kind != 2)) else some false) else some false) else some false) else some false) else (bif (v1.Kind==3) then (doc_bare v1).bind fun v7=>(bif v7 then (bif (v1.Local==[]) then (QW v1.Text).bind fun v8=>(bif v8 then (qj v1.Text [45,45]).bind fun v9=>(bif (!v9) then (Qd v1.Text [45]).bind fun v10=>some (!v10) else some false) else some false) else some false) else some false) else (bif (v1.Kind==4) then ((bif (!(v1.Text==[])) then (at' v1.Text 0).bind fun v11=>(ZX v11).bind fun v12=>some v12 else some false):Option (Bool)).bind (fun (q13:Bool)=>(doc_bare v1).bind fun v14=>(bif v14 then (QR v1.Local).bind fun v15=>(bif v15 then (JH v1.Local).bind fun v16=>(bif (!v16) then (QW v1.Text).bind fun v17=>(bif v17 then (qj v1.Text [63,62]).bind fun v18=>(bif (!v18) then some (!q13) else some false) else some false) else some false) else some false) else some false)) else some false))))
noncomputable def doc_under (x:zd):Option Bool:=
 (bif (x.Parent != 0) then some true else some (x.Kind != 2))
noncomputable def Z9 (v8:(List Int))(y9:Int×(List Int)):Option ((Int×(List Int))⊕(List Int)):=
 (bif (decide (y9.1<(v8.length:Int))) then (at' y9.2 y9.1).bind fun v10=>(put y9.2 y9.1 (-1)).bind fun v11=>some (.inl ((w64 (y9.1+1)),v11)) else some (.inr y9.2))
noncomputable def zy (l:(List zd))(y13:Int×Int×(List Int)):Option ((Int×Int×(List Int))⊕(Unit⊕Int)):=
 (bif (decide (y13.2.1<(l.length:Int))) then ((JE l y13.2.1).bind fun v14=>(bif (!v14) then some true else (at' l y13.2.1).bind fun v15=>(at' y13.2.2 v15.Parent).bind fun v16=>(JG l y13.2.1 v16).bind fun v17=>(bif (!v17) then some true else (at' l y13.2.1).bind fun v18=>(doc_under v18).bind fun v19=>some (!v19))):Option (Bool)).bind (fun (q20:Bool)=>(bif q20 then some (.inr (Sum.inl ())) else (at' l y13.2.1).bind fun v21=>(bif (v21.Parent==0) then (at' l y13.2.1).bind fun v22=>(bif (v22.Kind==1) then (bif (decide (y13.1>0)) then some (.inr (Sum.inl ())) else (at' l y13.2.1).bind fun v23=>(at' y13.2.2 v23.Parent).bind fun v24=>(put y13.2.2 v23.Parent y13.2.1).bind fun v25=>some (.inl (y13.2.1,(w64 (y13.2.1+1)),v25))) else (at' l y13.2.1).bind fun v26=>(at' y13.2.2 v26.Parent).bind fun v27=>(put y13.2.2 v26.Parent y13.2.1).bind fun v28=>some (.inl (y13.1,(w64 (y13.2.1+1)),v28))) else (at' l y13.2.1).bind fun v29=>(at' y13.2.2 v29.Parent).bind fun v30=>(put y13.2.2 v29.Parent y13.2.1).bind fun v31=>some (.inl (y13.1,(w64 (y13.2.1+1)),v31))))) else some (.inr (Sum.inr y13.1)))
noncomputable def Jo (l:(List zd)):Option (Int×Bool):=
 ((bif ((l.length:Int)==0) then some true else (at' l 0).bind fun v1=>(bif (v1.Kind != 0) then some true else (at' l 0).bind fun v2=>(bif (v2.Parent != (-1)) then some true else (at' l 0).bind fun v3=>(doc_bare v3).bind fun v4=>(bif (!v4) then some true else (at' l 0).bind fun v5=>(bif (!(v5.Local==[])) then some true else (at' l 0).bind fun v6=>some (!(v6.Text==[]))))))):Option (Bool)).bind (fun (q7:Bool)=>(bif q7 then some (0,false) else (mk 8 (l.length:Int) 0).bind fun v8=>(iter (Z9 v8) (0,v8)).bind (fun (q12:(List Int))=>(iter (zy l) (0,1,q12)).bind (Sum.elim (fun (q32:Unit)=>some (0,false)) (fun (q33:Int)=>some (q33,(decide (q33>0))))))))
noncomputable def zD (l:(List zd))(y2:Int×(List Int)):Option ((Int×(List Int))⊕(Unit⊕Unit)):=
 (bif (decide (y2.1<(l.length:Int))) then (at' l y2.1).bind fun v3=>(bif (decide (y2.1>0)) then (at' y2.2 v3.Parent).bind fun v4=>(at' y2.2 y2.1).bind fun v5=>(put y2.2 y2.1 (w64 (v4+1))).bind fun v6=>(at' v6 y2.1).bind fun v7=>(bif (decide (v7>64)) then some (.inr (Sum.inl ())) else (bif (decide ((w64 ((v3.Decls.length:Int)+(v3.Attrs.length:Int)))>64)) then some (.inr (Sum.inl ())) else some (.inl ((w64 (y2.1+1)),v6)))) else (at' y2.2 y2.1).bind fun v8=>(bif (decide (v8>64)) then some (.inr (Sum.inl ())) else (bif (decide ((w64 ((v3.Decls.length:Int)+(v3.Attrs.length:Int)))>64)) then some (.inr (Sum.inl ())) else some (.inl ((w64 (y2.1+1)),y2.2))))) else some (.inr (Sum.inr ())))
noncomputable def JF (l:(List zd)):Option Bool:=
 (bif (decide ((l.length:Int)>4000)) then some false else (mk 8 (l.length:Int) 0).bind fun v1=>(iter (zD l) (0,v1)).bind (Sum.elim (fun (q9:Unit)=>some false) (fun (q10:Unit)=>some true)))
noncomputable def Q7 (s:(List zz)):Option (List zz):=
 (app 32 [] s).bind fun v2=>some v2
noncomputable def Q9 (s:(List zw)):Option (List zw):=
 (app 64 [] s).bind fun v2=>some v2
noncomputable def doc_clone (x:zd):Option (Int×Int×Str×Str×Str×Str×(List zz)×(List zw)):=
 (Q7 x.Decls).bind fun v1=>(Q9 x.Attrs).bind fun v2=>some (x.Kind,x.Parent,x.Prefix,x.Local,x.URI,x.Text,v1,v2)
noncomputable def JO (l:(List zd))(y4:Int×(List zd)):Option ((Int×(List zd))⊕(List zd)):=
 (bif (decide (y4.1<(l.length:Int))) then (at' l y4.1).bind fun v5=>(doc_clone v5).bind fun v6=>(app 128 y4.2 [(zd.mk v6.1 v6.2.1 v6.2.2.1 v6.2.2.2.1 v6.2.2.2.2.1 v6.2.2.2.2.2.1 v6.2.2.2.2.2.2.1 v6.2.2.2.2.2.2.2)]).bind fun v7=>some (.inl ((w64 (y4.1+1)),v7)) else some (.inr y4.2))
noncomputable def JQ (l:(List zd))(y9:Int×(List Int)):Option ((Int×(List Int))⊕(List Int)):=
 (bif (decide (y9.1≥0)) then (at' y9.2 y9.1).bind fun v10=>(at' y9.2 y9.1).bind fun v11=>(put y9.2 y9.1 (mx v10 (w64 (y9.1+1)))).bind fun v12=>(at' l y9.1).bind fun v13=>(bif (decide (v13.Parent≥0)) then (at' v12 v13.Parent).bind fun v14=>(at' v12 y9.1).bind fun v15=>(at' v12 v13.Parent).bind fun v16=>(put v12 v13.Parent (mx v14 v15)).bind fun v17=>some (.inl ((w64 (y9.1-1)),v17)) else some (.inl ((w64 (y9.1-1)),v12))) else some (.inr y9.2))
noncomputable def doc_Of (l:(List zd)):Option ((Option qv)×Int):=
 (Jo l).bind fun v1=>(bif (!v1.2) then some (none,2) else (JF l).bind fun v2=>(bif (!v2) then some (none,3) else (mk 8 (l.length:Int) 0).bind fun v3=>(iter (JO l) (0,[])).bind (fun (q8:(List zd))=>(iter (JQ l) ((w64 ((l.length:Int)-1)),v3)).bind (fun (q18:(List Int))=>some ((some (qv.mk q8 q18 v1.1)),0)))))
noncomputable def zP (u1:Str)(y1:Int):Option (Int⊕Int):=
 (bif (decide (y1<(u1.length:Int))) then (at' u1 y1).bind fun v2=>(ZX v2).bind fun v3=>(bif v3 then some (.inl (w64 (y1+1))) else some (.inr y1)) else some (.inr y1))
noncomputable def zx (u1:Str)(u2:Bool)(u3:Bool)(u4:(List zd))(u5:(List zp))(u6:Str):Option (Bool×Str):=
 (iter (zP u1) 0).bind (fun (q4:Int)=>(sub' u1 q4 (u1.length:Int)).bind fun v5=>some ((decide (q4>0)),v5))
noncomputable def zu (u1:Str)(u2:Str)(u3:Bool)(u4:Bool)(u5:(List zd))(u6:(List zp))(u7:Str):Option (Bool×Str):=
 (qZ u2 u1).bind fun v1=>(bif v1.2 then some (v1.2,v1.1) else some (v1.2,u2))
noncomputable def qh (u1:Str)(u2:Str)(u3:Bool)(u4:Bool)(u5:(List zd))(u6:(List zp))(u7:Str):Option (Str×Bool×Str):=
 (qc u2 u1).bind fun v1=>(bif v1.2.2 then some (v1.1,v1.2.2,v1.2.1) else some (v1.1,v1.2.2,u2))
noncomputable def ql (u1:Str)(u2:Bool)(u3:Bool)(u4:(List zd))(u5:(List zp))(u6:Str):Option (Str×Bool×Str):=
 (zx u1 u2 u3 u4 u5 u6).bind fun v1=>(zu [61] v1.2 u2 u3 u4 u5 u6).bind fun v2=>(bif (!v2.1) then some ([],false,v2.2) else (zx v2.2 u2 u3 u4 u5 u6).bind fun v3=>((bif (v3.2==[]) then some true else (sub' v3.2 0 1).bind fun v4=>(qj [39,34] v4).bind fun v5=>some (!v5)):Option (Bool)).bind (fun (q6:Bool)=>(bif q6 then some ([],false,v3.2) else (sub' v3.2 0 1).bind fun v7=>(sub' v3.2 1 (v3.2.length:Int)).bind fun v8=>(qh v7 v8 u2 u3 u4 u5 u6).bind fun v9=>some (v9.1,v9.2.1,v9.2.2))))
noncomputable def zO (u8:(List Str))(v4:Str×Bool×Str)(y5:Int):Option (Int⊕(Unit⊕Unit)):=
 (bif (decide (y5<(u8.length:Int))) then (at' u8 y5).bind fun v6=>(bif v4.2.1 then (bif (v4.1==v6) then some (.inr (Sum.inl ())) else some (.inl (w64 (y5+1)))) else some (.inl (w64 (y5+1)))) else some (.inr (Sum.inr ())))
noncomputable def qT (u1:Str)(u2:Str)(u3:Bool)(u4:Bool)(u5:(List zd))(u6:(List zp))(u7:Str)(u8:(List Str)):Option (Bool×Str):=
 ((zx u2 u3 u4 u5 u6 u7).bind fun v1=>(bif (!v1.1) then some (true,v1.2) else (zu u1 v1.2 u3 u4 u5 u6 u7).bind fun v2=>some ((!v2.1),v2.2)):Option ((Bool×Str))).bind (fun (q3:Bool×Str)=>(bif q3.1 then some (true,u2) else (ql q3.2 u3 u4 u5 u6 u7).bind fun v4=>(iter (zO u8 v4) 0).bind (Sum.elim (fun (q7:Unit)=>some (true,v4.2.2)) (fun (q8:Unit)=>some (false,v4.2.2)))))
noncomputable def qJ (u1:Str)(u2:Bool)(u3:Bool)(u4:(List zd))(u5:(List zp))(u6:Str):Option (Bool×Str):=
 ((zx u1 u2 u3 u4 u5 u6).bind fun v1=>(bif (!v1.1) then some (true,v1.2) else (zu [101,110,99,111,100,105,110,103] v1.2 u2 u3 u4 u5 u6).bind fun v2=>some ((!v2.1),v2.2)):Option ((Bool×Str))).bind (fun (q3:Bool×Str)=>(bif q3.1 then some (true,u1) else (ql q3.2 u2 u3 u4 u5 u6).bind fun v4=>(bif v4.2.1 then (parse_fold v4.1).bind fun v5=>some ((v5==[117,116,102,45,56]),v4.2.2) else some (false,v4.2.2))))
noncomputable def qw (u1:Str)(u2:Bool)(u3:Bool)(u4:(List zd))(u5:(List zp))(u6:Str):Option (Bool×Str):=
 ((bif (decide ((u1.length:Int)<6)) then some true else (sub' u1 0 5).bind fun v1=>(bif (!(v1==[60,63,120,109,108])) then some true else (at' u1 5).bind fun v2=>(ZX v2).bind fun v3=>some (!v3))):Option (Bool)).bind (fun (q4:Bool)=>(bif q4 then some (true,u1) else (sub' u1 5 (u1.length:Int)).bind fun v5=>(zx v5 u2 u3 u4 u5 u6).bind fun v6=>(ZC v6.2 [118,101,114,115,105,111,110]).bind fun v7=>(bif (!v7) then some (false,v6.2) else (qT [118,101,114,115,105,111,110] v5 u2 u3 u4 u5 u6 [[49,46,48]]).bind fun v8=>(bif (!v8.1) then some (false,v8.2) else (qJ v8.2 u2 u3 u4 u5 u6).bind fun v9=>(bif (!v9.1) then some (false,v9.2) else (qT [115,116,97,110,100,97,108,111,110,101] v9.2 u2 u3 u4 u5 u6 [[121,101,115],[110,111]]).bind fun v10=>(bif (!v10.1) then some (false,v10.2) else (zx v10.2 u2 u3 u4 u5 u6).bind fun v11=>(zu [63,62] v11.2 u2 u3 u4 u5 u6).bind fun v12=>some (v12.1,v12.2)))))))
noncomputable def ZO (u1:Str)(u2:Bool)(u3:Bool)(u4:(List zd))(u5:(List zp))(u6:Str):Option Int:=
 some (u6.length:Int)
noncomputable def qm (u1:Str)(u2:Bool)(u3:Bool)(u4:(List zd))(u5:(List zp))(u6:Str):Option Int:=
 (bif ((u5.length:Int)==0) then some 0 else (at' u5 (w64 ((u5.length:Int)-1))).bind fun v1=>some v1.n)
noncomputable def Zj (u1:Str)(u2:Bool)(u3:Bool)(u4:(List zd))(u5:(List zp))(u6:Str):Option Str:=
 (unsf u6).bind fun v1=>some v1
noncomputable def Zr (u1:Str)(u2:Bool)(u3:Bool)(u4:(List zd))(u5:(List zp)):Option Unit:=
 some ()
noncomputable def qr (u1:Str)(u2:Bool)(u3:Bool)(u4:(List zd))(u5:(List zp))(u6:Str):Option (Bool×(List zd)×Str):=
 (ZO u1 u2 u3 u4 u5 u6).bind fun v1=>(bif (decide (v1>0)) then ((qm u1 u2 u3 u4 u5 u6).bind fun v2=>(Zj u1 u2 u3 u4 u5 u6).bind fun v3=>(app 128 u4 [(zd.mk 2 v2 [] [] [] v3 [] [])]).bind fun v4=>some v4:Option ((List zd))).bind (fun (q5:(List zd))=>(Zr u1 u2 u3 q5 u5).bind fun v6=>some (true,q5,[])) else some (u2,u4,u6))
noncomputable def qD (u1:Int)(u2:Int)(u3:Str)(u4:Str)(u5:Str)(u6:Str)(u7:Str)(u8:Bool)(u9:Bool)(u10:(List zd))(u11:(List zp))(u12:Str):Option (Bool×(List zd)×Str):=
 (qr u7 u8 u9 u10 u11 u12).bind fun v1=>(qm u7 v1.1 u9 v1.2.1 u11 v1.2.2).bind fun v2=>(app 128 v1.2.1 [(zd.mk u1 v2 u3 u4 u5 u6 [] [])]).bind fun v3=>some (v1.1,v3,v1.2.2)
noncomputable def qO (u1:Str)(u2:Bool)(u3:Bool)(u4:(List zd))(u5:(List zp))(u6:Str):Option Unit:=
 (bif u2 then some () else some ())
noncomputable def zF (u1:Str)(u2:Str)(u3:Bool)(u4:Bool)(u5:(List zd))(u6:(List zp))(u7:Str):Option (Int×Str):=
 (qO u2 u3 u4 u5 u6 u7).bind fun v1=>(app 1 u7 u1).bind fun v2=>some ((u1.length:Int),v2)
noncomputable def zE (u1:Str)(y1:Int×Nat):Option ((Int×Nat)⊕Int):=
 (bif (decide (y1.2<u1.length)) then (bif (((dec u1 y1.2).1:Int) != 58) then (JM ((dec u1 y1.2).1:Int)).bind fun v2=>(bif (!v2) then some (.inr y1.1) else some (.inl ((w64 ((y1.2:Int)+((enc ((dec u1 y1.2).1:Int)).length:Int))),(y1.2+(dec u1 y1.2).2)))) else some (.inl ((w64 ((y1.2:Int)+((enc ((dec u1 y1.2).1:Int)).length:Int))),(y1.2+(dec u1 y1.2).2)))) else some (.inr y1.1))
noncomputable def qk (u1:Str)(u2:Bool)(u3:Bool)(u4:(List zd))(u5:(List zp))(u6:Str):Option (Str×Str):=
 (iter (zE u1) (0,0)).bind (fun (q3:Int)=>(sub' u1 0 q3).bind fun v4=>(sub' u1 q3 (u1.length:Int)).bind fun v5=>some (v4,v5))
noncomputable def qs (u1:Str)(u2:Bool)(u3:Bool)(u4:(List zd))(u5:(List zp))(u6:Str):Option (Bool×Str×Bool×(List zd)×Str):=
 (qk u1 u2 u3 u4 u5 u6).bind fun v1=>(zx v1.2 u2 u3 u4 u5 u6).bind fun v2=>(qh [63,62] v2.2 u2 u3 u4 u5 u6).bind fun v3=>(bif (!v3.2.1) then some (false,v3.2.2,u2,u4,u6) else (bif (!v2.1) then (bif (!(v3.1==[])) then some (false,v3.2.2,u2,u4,u6) else (qD 4 0 [] v1.1 [] v3.1 v3.2.2 u2 u3 u4 u5 u6).bind fun v4=>some (true,v3.2.2,v4.1,v4.2.1,v4.2.2)) else (qD 4 0 [] v1.1 [] v3.1 v3.2.2 u2 u3 u4 u5 u6).bind fun v5=>some (true,v3.2.2,v5.1,v5.2.1,v5.2.2)))
noncomputable def Zd (u1:Str)(u2:Bool)(u3:Bool)(u4:(List zd))(u5:(List zp))(u6:Str):Option (Bool×Str×Bool×(List zd)×(List zp)×Str):=
 ((bif (decide ((w64 ((u5.length:Int)-1))<0)) then some (true,u1) else (qk u1 u2 u3 u4 u5 u6).bind fun v1=>(at' u5 (w64 ((u5.length:Int)-1))).bind fun v2=>some ((!(v1.1==v2.name)),v1.2)):Option ((Bool×Str))).bind (fun (q3:Bool×Str)=>(bif q3.1 then some (false,q3.2,u2,u4,u5,u6) else (zx q3.2 u2 u3 u4 u5 u6).bind fun v4=>(zu [62] v4.2 u2 u3 u4 u5 u6).bind fun v5=>(bif (!v5.1) then some (false,v5.2,u2,u4,u5,u6) else (qr v5.2 u2 u3 u4 u5 u6).bind fun v6=>(rng (u5.length:Int) 0 (w64 ((u5.length:Int)-1))).bind fun _=>(prt u5 0 ((w64 ((u5.length:Int)-1)).toNat)).bind fun v7=>some (true,v5.2,v6.1,v6.2.1,v7,v6.2.2))))
noncomputable def qz (u1:Str)(u2:Bool)(u3:Bool)(u4:(List zd))(u5:(List zp))(u6:Str)(u7:Int)(u8:Int)(u9:Str)(u10:Str)(u11:Str)(u12:Str)(u13:(List zz))(u14:(List zw)):Option (Bool×Str×(List zz)×(List zw)):=
 (qk u1 u2 u3 u4 u5 u6).bind fun v1=>(name_Split v1.1).bind fun v2=>(ql v1.2 u2 u3 u4 u5 u6).bind fun v3=>(chars_Value v3.1).bind fun v4=>((bif (!v2.2.2) then some true else (bif (!v3.2.1) then some true else some (!v4.2))):Option (Bool)).bind (fun (q5:Bool)=>(bif q5 then some (false,v3.2.2,u13,u14) else (bif (v2.1==[120,109,108,110,115]) then (app 32 u13 [(zz.mk v2.2.1 v4.1)]).bind fun v6=>some (true,v3.2.2,v6,u14) else ((bif (v2.1==[]) then some (v2.2.1==[120,109,108,110,115]) else some false):Option (Bool)).bind (fun (q7:Bool)=>(bif q7 then (app 32 u13 [(zz.mk [] v4.1)]).bind fun v8=>some (true,v3.2.2,v8,u14) else (app 64 u14 [(zw.mk v2.1 v2.2.1 [] v4.1)]).bind fun v9=>some (true,v3.2.2,u13,v9))))))
noncomputable def Qk (u1:Str)(v3:zd)(y4:Int):Option (Int⊕(Str⊕Unit)):=
 (bif (decide (y4<(v3.Decls.length:Int))) then (at' v3.Decls y4).bind fun v5=>(bif (v5.Prefix==u1) then some (.inr (Sum.inl v5.URI)) else some (.inl (w64 (y4+1)))) else some (.inr (Sum.inr ())))
noncomputable def zW (u1:Str)(u8:(List zz))(y8:Int):Option (Int⊕(Str⊕Unit)):=
 (bif (decide (y8<(u8.length:Int))) then (at' u8 y8).bind fun v9=>(bif (v9.Prefix==u1) then some (.inr (Sum.inl v9.URI)) else some (.inl (w64 (y8+1)))) else some (.inr (Sum.inr ())))
noncomputable def zX (u1:Str)(u5:(List zd))(u6:(List zp))(u8:(List zz))(y1:Int):Option (Int⊕(Str⊕Unit)):=
 (bif (decide (y1≥0)) then (bif (decide (y1<(u6.length:Int))) then (at' u6 y1).bind fun v2=>(at' u5 v2.n).bind fun v3=>(iter (Qk u1 v3) 0).bind (Sum.elim (fun (q6:Str)=>some (.inr (Sum.inl q6))) (fun (q7:Unit)=>some (.inl (w64 (y1-1))))) else (iter (zW u1 u8) 0).bind (Sum.elim (fun (q10:Str)=>some (.inr (Sum.inl q10))) (fun (q11:Unit)=>some (.inl (w64 (y1-1)))))) else some (.inr (Sum.inr ())))
noncomputable def qG (u1:Str)(u2:Str)(u3:Bool)(u4:Bool)(u5:(List zd))(u6:(List zp))(u7:Str)(u8:(List zz)):Option Str:=
 (bif (u1==[120,109,108]) then some [104,116,116,112,58,47,47,119,119,119,46,119,51,46,111,114,103,47,88,77,76,47,49,57,57,56,47,110,97,109,101,115,112,97,99,101] else (iter (zX u1 u5 u6 u8) (u6.length:Int)).bind (Sum.elim (fun (q12:Str)=>some q12) (fun (q13:Unit)=>some [])))
noncomputable def ZJ (u1:Int)(u2:Int)(u3:Str)(u4:Str)(u5:Str)(u6:Str)(u7:Str)(u8:Bool)(u9:Bool)(u10:(List zd))(u11:(List zp))(u12:Str)(u13:(List zz))(u14:(List zw)):Option (Bool×(List zd)×Str):=
 (qr u7 u8 u9 u10 u11 u12).bind fun v1=>(qm u7 v1.1 u9 v1.2.1 u11 v1.2.2).bind fun v2=>(app 128 v1.2.1 [(zd.mk u1 v2 u3 u4 u5 u6 u13 u14)]).bind fun v3=>some (v1.1,v3,v1.2.2)
noncomputable def qe (u9:Str)(u10:Bool)(u11:Bool)(u12:(List zd))(u13:(List zp))(u14:Str)(u15:(List zz))(u16:(List zw))(y2:Int×(List zw)):Option ((Int×(List zw))⊕(List zw)):=
 (bif (decide (y2.1<(u16.length:Int))) then (at' y2.2 y2.1).bind fun v3=>(bif (!(v3.Prefix==[])) then (qG v3.Prefix u9 u10 u11 u12 u13 u14 u15).bind fun v4=>(at' y2.2 y2.1).bind fun v5=>(put y2.2 y2.1 (zw.mk v5.Prefix v5.Local v4 v5.Value)).bind fun v6=>some (.inl ((w64 (y2.1+1)),v6)) else some (.inl ((w64 (y2.1+1)),y2.2))) else some (.inr y2.2))
noncomputable def qi (u1:Int)(u2:Int)(u3:Str)(u4:Str)(u5:Str)(u6:Str)(u7:Str)(u8:Bool)(u9:Str)(u10:Bool)(u11:Bool)(u12:(List zd))(u13:(List zp))(u14:Str)(u15:(List zz))(u16:(List zw)):Option (Bool×(List zd)×(List zp)×Str):=
 (qG u3 u9 u10 u11 u12 u13 u14 u15).bind fun v1=>(iter (qe u9 u10 u11 u12 u13 u14 u15 u16) (0,u16)).bind (fun (q7:(List zw))=>(ZJ u1 u2 u3 u4 v1 u6 u9 u10 u11 u12 u13 u14 u15 q7).bind fun v8=>(bif (!u8) then (app 24 u13 [(zp.mk (w64 ((v8.2.1.length:Int)-1)) u7)]).bind fun v9=>some (v8.1,v8.2.1,v9,v8.2.2) else some (v8.1,v8.2.1,u13,v8.2.2)))
noncomputable def zV (u2:Bool)(u3:Bool)(u4:(List zd))(u5:(List zp))(u6:Str)(v1:Str×Str)(v2:Str×Str×Bool)(y3:Str×(List zz)×(List zw)):Option ((Str×(List zz)×(List zw))⊕(Bool×Str×Bool×(List zd)×(List zp)×Str)):=
 (zx y3.1 u2 u3 u4 u5 u6).bind fun v4=>(zu [62] v4.2 u2 u3 u4 u5 u6).bind fun v5=>(bif (!v5.1) then (zu [47,62] v5.2 u2 u3 u4 u5 u6).bind fun v6=>(bif v5.1 then (qi 1 0 v2.1 v2.2.1 [] [] v1.1 v6.1 v6.2 u2 u3 u4 u5 u6 y3.2.1 y3.2.2).bind fun v7=>some (.inr (true,v6.2,v7.1,v7.2.1,v7.2.2.1,v7.2.2.2)) else (bif v6.1 then (qi 1 0 v2.1 v2.2.1 [] [] v1.1 v6.1 v6.2 u2 u3 u4 u5 u6 y3.2.1 y3.2.2).bind fun v8=>some (.inr (true,v6.2,v8.1,v8.2.1,v8.2.2.1,v8.2.2.2)) else (bif (!v4.1) then some (.inr (false,v6.2,u2,u4,u5,u6)) else (qz v6.2 u2 u3 u4 u5 u6 1 0 v2.1 v2.2.1 [] [] y3.2.1 y3.2.2).bind fun v9=>(bif (!v9.1) then some (.inr (false,v9.2.1,u2,u4,u5,u6)) else some (.inl (v9.2.1,v9.2.2.1,v9.2.2.2)))))) else (bif v5.1 then (qi 1 0 v2.1 v2.2.1 [] [] v1.1 false v5.2 u2 u3 u4 u5 u6 y3.2.1 y3.2.2).bind fun v10=>some (.inr (true,v5.2,v10.1,v10.2.1,v10.2.2.1,v10.2.2.2)) else (bif (!v4.1) then some (.inr (false,v5.2,u2,u4,u5,u6)) else (qz v5.2 u2 u3 u4 u5 u6 1 0 v2.1 v2.2.1 [] [] y3.2.1 y3.2.2).bind fun v11=>(bif (!v11.1) then some (.inr (false,v11.2.1,u2,u4,u5,u6)) else some (.inl (v11.2.1,v11.2.2.1,v11.2.2.2))))))
noncomputable def Zm (u1:Str)(u2:Bool)(u3:Bool)(u4:(List zd))(u5:(List zp))(u6:Str):Option (Bool×Str×Bool×(List zd)×(List zp)×Str):=
 (qk u1 u2 u3 u4 u5 u6).bind fun v1=>(name_Split v1.1).bind fun v2=>(bif (!v2.2.2) then some (false,v1.2,u2,u4,u5,u6) else (iter (zV u2 u3 u4 u5 u6 v1 v2) (v1.2,[],[])).bind (fun (q12:Bool×Str×Bool×(List zd)×(List zp)×Str)=>some (q12.1,q12.2.1,q12.2.2.1,q12.2.2.2.1,q12.2.2.2.2.1,q12.2.2.2.2.2)))
noncomputable def qS (u1:Str)(u2:Bool)(u3:Bool)(u4:(List zd))(u5:(List zp))(u6:Str):Option (Bool×Str×Bool×Str):=
 (Q5 u1 60).bind fun v1=>(bif (decide (v1<0)) then (sub' u1 0 (u1.length:Int)).bind fun v2=>(sub' u1 (u1.length:Int) (u1.length:Int)).bind fun v3=>(bif ((u5.length:Int)==0) then (name_Trim v2).bind fun v4=>some ((v4==[]),v3,u2,u6) else (Qm v2).bind fun v5=>(zF v5.1 v3 u2 u3 u4 u5 u6).bind fun v6=>some (v5.2,v3,false,v6.2)) else (sub' u1 0 v1).bind fun v7=>(sub' u1 v1 (u1.length:Int)).bind fun v8=>(bif ((u5.length:Int)==0) then (name_Trim v7).bind fun v9=>some ((v9==[]),v8,u2,u6) else (Qm v7).bind fun v10=>(zF v10.1 v8 u2 u3 u4 u5 u6).bind fun v11=>some (v10.2,v8,false,v11.2)))
noncomputable def Zy (u1:Str)(u2:Bool)(u3:Bool)(u4:(List zd))(u5:(List zp))(u6:Str):Option (Bool×Str×Bool×(List zd)×(List zp)×Str):=
 (zu [60,33,45,45] u1 u2 u3 u4 u5 u6).bind fun v1=>(bif v1.1 then (qh [45,45,62] v1.2 u2 u3 u4 u5 u6).bind fun v2=>(qD 3 0 [] [] [] v2.1 v2.2.2 u2 u3 u4 u5 u6).bind fun v3=>some (v2.2.1,v2.2.2,v3.1,v3.2.1,u5,v3.2.2) else ((bif (decide ((u5.length:Int)>0)) then (zu [60,33,91,67,68,65,84,65,91] v1.2 u2 u3 u4 u5 u6).bind fun v4=>some (v4.1,v4.2) else some (false,v1.2)):Option ((Bool×Str))).bind (fun (q5:Bool×Str)=>(bif q5.1 then (qh [93,93,62] q5.2 u2 u3 u4 u5 u6).bind fun v6=>(zF v6.1 v6.2.2 u2 u3 u4 u5 u6).bind fun v7=>some (v6.2.1,v6.2.2,false,u4,u5,v7.2) else (zu [60,63] q5.2 u2 u3 u4 u5 u6).bind fun v8=>(bif v8.1 then (qs v8.2 u2 u3 u4 u5 u6).bind fun v9=>some (v9.1,v9.2.1,v9.2.2.1,v9.2.2.2.1,u5,v9.2.2.2.2) else (zu [60,47] v8.2 u2 u3 u4 u5 u6).bind fun v10=>(bif v10.1 then (Zd v10.2 u2 u3 u4 u5 u6).bind fun v11=>some (v11.1,v11.2.1,v11.2.2.1,v11.2.2.2.1,v11.2.2.2.2.1,v11.2.2.2.2.2) else (zu [60] v10.2 u2 u3 u4 u5 u6).bind fun v12=>(bif v12.1 then (Zm v12.2 u2 u3 u4 u5 u6).bind fun v13=>some (v13.1,v13.2.1,v13.2.2.1,v13.2.2.2.1,v13.2.2.2.2.1,v13.2.2.2.2.2) else (qS v12.2 u2 u3 u4 u5 u6).bind fun v14=>some (v14.1,v14.2.1,v14.2.2.1,u4,u5,v14.2.2.2)))))))
noncomputable def Jd (y4:Str×Bool×(List zd)×(List zp)×Str):Option ((Str×Bool×(List zd)×(List zp)×Str)⊕(Unit⊕(Str×Bool×(List zd)×(List zp)×Str))):=
 (bif (!(y4.1==[])) then (Zy y4.1 y4.2.1 false y4.2.2.1 y4.2.2.2.1 y4.2.2.2.2).bind fun v5=>(bif (!v5.1) then some (.inr (Sum.inl ())) else some (.inl (v5.2.1,v5.2.2.1,v5.2.2.2.1,v5.2.2.2.2.1,v5.2.2.2.2.2))) else some (.inr (Sum.inr (y4.1,y4.2.1,y4.2.2.1,y4.2.2.2.1,y4.2.2.2.2))))
noncomputable def Zw (b:Str):Option ((Option qv)×Int):=
 (bif (decide ((b.length:Int)>65536)) then some (none,3) else (utf_Text b).bind fun v1=>(bif (!v1) then some (none,2) else (chars_Lines b).bind fun v2=>(qw v2 true false [(zd.mk 0 (-1) [] [] [] [] [] [])] [] []).bind fun v3=>(bif (!v3.1) then some (none,2) else (iter (Jd) (v3.2,true,[(zd.mk 0 (-1) [] [] [] [] [] [])],[],[])).bind (Sum.elim (fun (q6:Unit)=>some (none,2)) (fun (q7:Str×Bool×(List zd)×(List zp)×Str)=>(bif (decide ((q7.2.2.2.1.length:Int)>0)) then some (none,2) else (doc_Of q7.2.2.1).bind fun v8=>some (v8.1,v8.2)))))))
noncomputable def JP (d:(Option qv)):Option Int:=
 (bif d.isNone then some 0 else (d).bind fun v1=>some (v1.l.length:Int))
noncomputable def QE (d:(Option qv))(n:Int):Option Bool:=
 (bif (decide (n≥0)) then (JP d).bind fun v1=>some (decide (n<v1)) else some false)
noncomputable def Qg (d:(Option qv))(n:Int):Option zd:=
 (QE d n).bind fun v1=>(bif (!v1) then some (zd.mk 0 0 [] [] [] [] [] []) else (d).bind fun v2=>(at' v2.l n).bind fun v3=>(doc_clone v3).bind fun v4=>some (zd.mk v4.1 v4.2.1 v4.2.2.1 v4.2.2.2.1 v4.2.2.2.2.1 v4.2.2.2.2.2.1 v4.2.2.2.2.2.2.1 v4.2.2.2.2.2.2.2))
noncomputable def Zx (s:(List zw))(v_:zw)(y1:Int):Option (Int⊕(Int⊕Unit)):=
 (bif (decide (y1<(s.length:Int))) then (at' s y1).bind fun v2=>(bif (zw.eqb v_ v2) then some (.inr (Sum.inl y1)) else some (.inl (w64 (y1+1)))) else some (.inr (Sum.inr ())))
noncomputable def Q8 (s:(List zw))(v_:zw):Option Int:=
 (iter (Zx s v_) 0).bind (Sum.elim (fun (q3:Int)=>some q3) (fun (q4:Unit)=>some (-1)))
noncomputable def Zv (s:(List zw))(v_:zw):Option Bool:=
 (Q8 s v_).bind fun v1=>some (decide (v1≥0))
noncomputable def QX (d:(Option qv))(n:Int)(y2:Int×(List Int)):Option ((Int×(List Int))⊕(List Int)):=
 (d).bind fun v3=>(at' v3.end_ n).bind fun v4=>(bif (decide (y2.1<v4)) then (app 8 y2.2 [y2.1]).bind fun v5=>(d).bind fun v6=>(at' v6.end_ y2.1).bind fun v7=>some (.inl (v7,v5)) else some (.inr y2.2))
noncomputable def QN (d:(Option qv))(n:Int):Option (List Int):=
 (QE d n).bind fun v1=>(bif (!v1) then some [] else (iter (QX d n) ((w64 (n+1)),[])).bind (fun (q8:(List Int))=>some q8))
noncomputable def qE (p:Zf)(d:(Option qv))(n:Int)(v1:(List Int))(y2:Int×(List qb)):Option ((Int×(List qb))⊕(List qb)):=
 (bif (decide (y2.1<(v1.length:Int))) then (at' v1 y2.1).bind fun v3=>(Qg d v3).bind fun v4=>((bif (v4.Kind==3) then some (!p.comments) else some false):Option (Bool)).bind (fun (q5:Bool)=>(bif q5 then some (.inl ((w64 (y2.1+1)),y2.2)) else ((bif (v4.Kind==2) then (bif (!p.comments) then (bif (decide ((w64 ((y2.2.length:Int)-1))≥0)) then (at' y2.2 (w64 ((y2.2.length:Int)-1))).bind fun v6=>some v6.is_ else some false) else some false) else some false):Option (Bool)).bind (fun (q7:Bool)=>(bif q7 then (at' y2.2 (w64 ((y2.2.length:Int)-1))).bind fun v8=>(cat v8.text v4.Text).bind fun v9=>(at' y2.2 (w64 ((y2.2.length:Int)-1))).bind fun v10=>(put y2.2 (w64 ((y2.2.length:Int)-1)) (qb.mk v10.n v9 v10.is_)).bind fun v11=>some (.inl ((w64 (y2.1+1)),v11)) else (bif (v4.Kind==2) then (app 32 y2.2 [(qb.mk 0 v4.Text true)]).bind fun v12=>some (.inl ((w64 (y2.1+1)),v12)) else (app 32 y2.2 [(qb.mk v3 [] false)]).bind fun v13=>some (.inl ((w64 (y2.1+1)),v13))))))) else some (.inr y2.2))
noncomputable def ZS (p:Zf)(d:(Option qv))(n:Int):Option (List qb):=
 (QN d n).bind fun v1=>(iter (qE p d n v1) (0,[])).bind (fun (q14:(List qb))=>some q14)
noncomputable def zM (s1:(List qb))(s2:(List qb))(eq:(qb→qb→Option Bool))(y1:Int):Option (Int⊕(Unit⊕Unit)):=
 (bif (decide (y1<(s1.length:Int))) then (at' s1 y1).bind fun v2=>(at' s2 y1).bind fun v3=>(eq v2 v3).bind fun v4=>(bif (!v4) then some (.inr (Sum.inl ())) else some (.inl (w64 (y1+1)))) else some (.inr (Sum.inr ())))
noncomputable def qH (s1:(List qb))(s2:(List qb))(eq:(qb→qb→Option Bool)):Option Bool:=
 (bif ((s1.length:Int) != (s2.length:Int)) then some false else (iter (zM s1 s2 eq) 0).bind (Sum.elim (fun (q5:Unit)=>some false) (fun (q6:Unit)=>some true)))
noncomputable def ZW (frec:(Zf→Int→Int→Option Bool))(x:qb)(y_:qb)(p2:Zf):Option Bool:=
 ((bif x.is_ then some true else some y_.is_):Option (Bool)).bind (fun (q1:Bool)=>(bif q1 then (bif (x.is_==y_.is_) then some (x.text==y_.text) else some false) else (frec p2 x.n y_.n).bind fun v2=>some v2))
noncomputable def Z8 (frec:(Zf→Int→Int→Option Bool))(p:Zf)(n:Int)(m:Int):Option Bool:=
 (ZS p p.a n).bind fun v1=>(ZS p p.b m).bind fun v2=>(qH v1 v2 (fun x0 x1=>ZW frec x0 x1 p)).bind fun v3=>some v3
noncomputable def Zh (q3:Int×Int×Str×Str×Str×Str×(List zz)×(List zw)×Int×Int×Str×Str×Str×Str×(List zz)×(List zw))(y5:Int):Option (Int⊕(Unit⊕Unit)):=
 (bif (decide (y5<(q3.2.2.2.2.2.2.2.1.length:Int))) then (at' q3.2.2.2.2.2.2.2.1 y5).bind fun v6=>(Zv q3.2.2.2.2.2.2.2.2.2.2.2.2.2.2.2 v6).bind fun v7=>(bif (!v7) then some (.inr (Sum.inl ())) else some (.inl (w64 (y5+1)))) else some (.inr (Sum.inr ())))
noncomputable def qB (frec:(Zf→Int→Int→Option Bool))(p:Zf)(n:Int)(m:Int):Option Bool:=
 ((Qg p.a n).bind fun v1=>(Qg p.b m).bind fun v2=>some (v1.Kind,v1.Parent,v1.Prefix,v1.Local,v1.URI,v1.Text,v1.Decls,v1.Attrs,v2.Kind,v2.Parent,v2.Prefix,v2.Local,v2.URI,v2.Text,v2.Decls,v2.Attrs):Option ((Int×Int×Str×Str×Str×Str×(List zz)×(List zw)×Int×Int×Str×Str×Str×Str×(List zz)×(List zw)))).bind (fun (q3:Int×Int×Str×Str×Str×Str×(List zz)×(List zw)×Int×Int×Str×Str×Str×Str×(List zz)×(List zw))=>((bif (q3.1 != q3.2.2.2.2.2.2.2.2.1) then some true else (bif (!(q3.2.2.2.1==q3.2.2.2.2.2.2.2.2.2.2.2.1)) then some true else (bif (!(q3.2.2.2.2.2.1==q3.2.2.2.2.2.2.2.2.2.2.2.2.2.1)) then some true else (bif (!(q3.2.2.1==q3.2.2.2.2.2.2.2.2.2.2.1)) then some true else (bif (!(q3.2.2.2.2.1==q3.2.2.2.2.2.2.2.2.2.2.2.2.1)) then some true else some ((q3.2.2.2.2.2.2.2.1.length:Int) != (q3.2.2.2.2.2.2.2.2.2.2.2.2.2.2.2.length:Int))))))):Option (Bool)).bind (fun (q4:Bool)=>(bif q4 then some false else (iter (Zh q3) 0).bind (Sum.elim (fun (q8:Unit)=>some false) (fun (q9:Unit)=>(Z8 frec p n m).bind fun v10=>some v10)))))
noncomputable def qd:Nat→(Zf→Int→Int→Option Bool)
 |0=>fun _ _ _=>none
 |fuel+1=>qB (qd fuel)
noncomputable def Jq (p:Zf)(n:Int)(m:Int):Option Bool:=lim fun fuel=>qd fuel p n m
noncomputable def ZR (a:(Option qv))(n:Int)(b:(Option qv))(m:Int)(comments:Bool):Option Bool:=
 (bif (decide (n<0)) then some false else (bif (decide (m<0)) then some false else (JP a).bind fun v1=>(bif (decide (n≥v1)) then some false else (JP b).bind fun v2=>(bif (decide (m≥v2)) then some false else (Jq (Zf.mk a b comments) n m).bind fun v3=>some v3))))
noncomputable def alike_Docs (a:(Option qv))(b:(Option qv))(comments:Bool):Option Bool:=
 (ZR a 0 b 0 comments).bind fun v1=>some v1
noncomputable def qR:Option Bool:=
 (Zw [60,97,32,120,61,39,49,39,32,121,61,39,50,39,47,62]).bind fun v1=>(Zw [60,97,32,121,61,39,50,39,32,120,61,39,49,39,62,60,47,97,62]).bind fun v2=>(bif (v1.2==0) then (bif (v2.2==0) then (alike_Docs v1.1 v2.1 true).bind fun v3=>some v3 else some false) else some false)
noncomputable def JS (d:(Option qv))(n:Int):Option Int:=
 (QE d n).bind fun v1=>(bif (!v1) then some 0 else (d).bind fun v2=>(at' v2.end_ n).bind fun v3=>some v3)
noncomputable def z8 (v4:(Option qv)×Int)(v5:(Option qv)×Int)(v8:(List Int))(v9:(List Int))(y13:Int):Option (Int⊕(Unit⊕Unit)):=
 (bif (decide (y13<(v8.length:Int))) then (at' v8 y13).bind fun v14=>(at' v9 y13).bind fun v15=>(ZR v4.1 v14 v5.1 v15 true).bind fun v16=>(bif (!v16) then some (.inr (Sum.inl ())) else some (.inl (w64 (y13+1)))) else some (.inr (Sum.inr ())))
noncomputable def Zk (s:Str)(t_:Str)(n:Int)(m:Int):Option Bool:=
 ((qR).bind fun v1=>(bif (!v1) then some true else some (decide ((w64 ((s.length:Int)+(t_.length:Int)))>1000))):Option (Bool)).bind (fun (q2:Bool)=>(bif q2 then (qR).bind fun v3=>some v3 else (Zw s).bind fun v4=>(Zw t_).bind fun v5=>((bif (v4.2 != 0) then some true else (bif (v5.2 != 0) then some true else (ZR v4.1 n v5.1 m true).bind fun v6=>some (!v6))):Option (Bool)).bind (fun (q7:Bool)=>(bif q7 then some true else (QN v4.1 n).bind fun v8=>(QN v5.1 m).bind fun v9=>((bif ((v8.length:Int) != (v9.length:Int)) then some true else (JS v4.1 n).bind fun v10=>(JS v5.1 m).bind fun v11=>some ((w64 (v10-n)) != (w64 (v11-m)))):Option (Bool)).bind (fun (q12:Bool)=>(bif q12 then some false else (iter (z8 v4 v5 v8 v9) 0).bind (Sum.elim (fun (q17:Unit)=>some false) (fun (q18:Unit)=>some true))))))))
end G
