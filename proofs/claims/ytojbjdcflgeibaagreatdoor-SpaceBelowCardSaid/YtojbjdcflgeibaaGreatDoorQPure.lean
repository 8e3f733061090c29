/-
  PLAIN FUNCTIONS, printed by aw.py: what the functions compute. No program, no memory. Conditions: none.
-/
import Derived.Test.YtojbjdcflgeibaaGreatDoorAbsM2
import Derived.Lib.IndexMore
import Derived.Shelf.Strings.Replace
set_option linter.unusedVariables false
namespace G
open W
structure Jq where
  lo:UInt8
  hi:UInt8
structure za where
  Prefix:Str
  URI:Str
structure z6 where
  Prefix:Str
  Local:Str
  URI:Str
  Value:Str
structure zd where
  Kind:Int
  Parent:Int
  Prefix:Str
  Local:Str
  URI:Str
  Text:Str
  Decls:(List za)
  Attrs:(List z6)
structure zu where
  n:Int
  name:Str
structure qq where
  from_:Int
  to_:Int
def qq.ints (x:qq):List Int:=[x.from_,x.to_]
structure TNoCopy where

def TNoCopy.ints (x:TNoCopy):List Int:=[]
structure TBool where
  blank:TNoCopy
  v:Int
structure TMutex2 where
  state:Int
  sema:Int
def TMutex2.ints (x:TMutex2):List Int:=[x.state,x.sema]
structure TMutex where
  blank:TNoCopy
  mu:TMutex2
structure TOnce where
  blank:TNoCopy
  done:TBool
  m:TMutex
structure ZW where
  l:(List zd)
  end_:(List Int)
  top:Int
structure TPair where
  a:(Option ZW)
  b:(Option ZW)
  comments:Bool
structure TItem where
  n:Int
  text:Str
  is_:Bool
structure TReader where
  S:Str
  At:Int
  L:(List zd)
  Bad:Bool
structure TPoint where
  N:Int
  Part:Int
  I:Int
def TPoint.ints (x:TPoint):List Int:=[x.N,x.Part,x.I]
structure TIndex where
  Doc:(Option ZW)
  ids:(List (Str×Int))
structure TAnon where
  e0:Int
  e1:Int
def TAnon.ints (x:TAnon):List Int:=[x.e0,x.e1]
def utf8First:Str:=[240,240,240,240,240,240,240,240,240,240,240,240,240,240,240,240,240,240,240,240,240,240,240,240,240,240,240,240,240,240,240,240,240,240,240,240,240,240,240,240,240,240,240,240,240,240,240,240,240,240,240,240,240,240,240,240,240,240,240,240,240,240,240,240,240,240,240,240,240,240,240,240,240,240,240,240,240,240,240,240,240,240,240,240,240,240,240,240,240,240,240,240,240,240,240,240,240,240,240,240,240,240,240,240,240,240,240,240,240,240,240,240,240,240,240,240,240,240,240,240,240,240,240,240,240,240,240,240,241,241,241,241,241,241,241,241,241,241,241,241,241,241,241,241,241,241,241,241,241,241,241,241,241,241,241,241,241,241,241,241,241,241,241,241,241,241,241,241,241,241,241,241,241,241,241,241,241,241,241,241,241,241,241,241,241,241,241,241,241,241,241,241,241,241,2,2,2,2,2,2,2,2,2,2,2,2,2,2,2,2,2,2,2,2,2,2,2,2,2,2,2,2,2,2,19,3,3,3,3,3,3,3,3,3,3,3,3,35,3,3,52,4,4,4,68,241,241,241,241,241,241,241,241,241,241,241]
def utf8Ranges:List Jq:=[⟨128,191⟩,⟨160,191⟩,⟨128,159⟩,⟨144,191⟩,⟨128,143⟩,⟨0,0⟩,⟨0,0⟩,⟨0,0⟩,⟨0,0⟩,⟨0,0⟩,⟨0,0⟩,⟨0,0⟩,⟨0,0⟩,⟨0,0⟩,⟨0,0⟩,⟨0,0⟩]
noncomputable def qV (s:(List UInt8)):Option Int:=
  (at' s 0).bind fun v1=>(at' s 1).bind fun v2=>(at' s 2).bind fun v3=>(at' s 3).bind fun v4=>(at' s 4).bind fun v5=>(at' s 5).bind fun v6=>(at' s 6).bind fun v7=>(at' s 7).bind fun v8=>some (v64 (bor 64 (v64 (bor 64 (v64 (bor 64 (v64 (bor 64 (v64 (bor 64 (v64 (bor 64 (v64 (bor 64 (v64 (v1.toNat:Int)) (v64 ((v64 (v2.toNat:Int))*2^8)))) (v64 ((v64 (v3.toNat:Int))*2^16)))) (v64 ((v64 (v4.toNat:Int))*2^24)))) (v64 ((v64 (v5.toNat:Int))*2^32)))) (v64 ((v64 (v6.toNat:Int))*2^40)))) (v64 ((v64 (v7.toNat:Int))*2^48)))) (v64 ((v64 (v8.toNat:Int))*2^56))))
noncomputable def QU (y13:(List UInt8)):Option ((List UInt8)⊕(List UInt8)):=
  (bif (decide ((y13.length:Int)>32)) then (sub' y13 8 (y13.length:Int)).bind fun v14=>(sub' y13 16 (y13.length:Int)).bind fun v15=>(sub' y13 24 (y13.length:Int)).bind fun v16=>(qV y13).bind fun v17=>(qV v14).bind fun v18=>(qV v15).bind fun v19=>(qV v16).bind fun v20=>(bif ((v64 (band 64 (v64 (bor 64 (v64 (bor 64 v17 v18)) (v64 (bor 64 v19 v20)))) 9259542123273814144))==0) then (sub' y13 32 (y13.length:Int)).bind fun v21=>some (.inl v21) else some (.inr y13)) else some (.inr y13))
noncomputable def QR (y2:(List UInt8)):Option ((List UInt8)⊕(Unit⊕Unit)):=
  (bif (decide ((y2.length:Int)>0)) then (at' y2 0).bind fun v3=>(bif (decide ((v3.toNat:Int)<128)) then (sub' y2 1 (y2.length:Int)).bind fun v4=>((bif (decide ((v4.length:Int)>8)) then (qV v4).bind fun v5=>some ((v64 (band 64 v5 9259542123273814144))==0) else some false):Option (Bool)).bind (fun (q6:Bool)=>(bif q6 then (sub' v4 8 (v4.length:Int)).bind fun v7=>((bif (decide ((v7.length:Int)>16)) then (sub' v7 8 (v7.length:Int)).bind fun v8=>(qV v7).bind fun v9=>(qV v8).bind fun v10=>some ((v64 (band 64 (v64 (bor 64 v9 v10)) 9259542123273814144))==0) else some false):Option (Bool)).bind (fun (q11:Bool)=>(bif q11 then (sub' v7 16 (v7.length:Int)).bind fun v12=>(iter (QU) v12).bind (fun (q22:(List UInt8))=>some (.inl q22)) else some (.inl v7))) else some (.inl v4))) else (at' utf8First (v3.toNat:Int)).bind fun v23=>(at' utf8Ranges ((u8 ((v23.toNat:Int).fdiv (2^4))).toNat:Int)).bind fun v24=>(bif ((w64 ((u8 (band 8 (v23.toNat:Int) 7)).toNat:Int))==2) then (bif (decide ((y2.length:Int)<2)) then some (.inr (Sum.inl ())) else (at' y2 1).bind fun v25=>(bif (decide ((v25.toNat:Int)<(v24.lo.toNat:Int))) then some (.inr (Sum.inl ())) else (at' y2 1).bind fun v26=>(bif (decide ((v24.hi.toNat:Int)<(v26.toNat:Int))) then some (.inr (Sum.inl ())) else (sub' y2 2 (y2.length:Int)).bind fun v27=>some (.inl v27)))) else (bif ((w64 ((u8 (band 8 (v23.toNat:Int) 7)).toNat:Int))==3) then (bif (decide ((y2.length:Int)<3)) then some (.inr (Sum.inl ())) else (at' y2 1).bind fun v28=>(bif (decide ((v28.toNat:Int)<(v24.lo.toNat:Int))) then some (.inr (Sum.inl ())) else (at' y2 1).bind fun v29=>(bif (decide ((v24.hi.toNat:Int)<(v29.toNat:Int))) then some (.inr (Sum.inl ())) else (at' y2 2).bind fun v30=>(bif (decide ((v30.toNat:Int)<128)) then some (.inr (Sum.inl ())) else (at' y2 2).bind fun v31=>(bif (decide (191<(v31.toNat:Int))) then some (.inr (Sum.inl ())) else (sub' y2 3 (y2.length:Int)).bind fun v32=>some (.inl v32)))))) else (bif ((w64 ((u8 (band 8 (v23.toNat:Int) 7)).toNat:Int))==4) then (bif (decide ((y2.length:Int)<4)) then some (.inr (Sum.inl ())) else (at' y2 1).bind fun v33=>(bif (decide ((v33.toNat:Int)<(v24.lo.toNat:Int))) then some (.inr (Sum.inl ())) else (at' y2 1).bind fun v34=>(bif (decide ((v24.hi.toNat:Int)<(v34.toNat:Int))) then some (.inr (Sum.inl ())) else (at' y2 2).bind fun v35=>(bif (decide ((v35.toNat:Int)<128)) then some (.inr (Sum.inl ())) else (at' y2 2).bind fun v36=>(bif (decide (191<(v36.toNat:Int))) then some (.inr (Sum.inl ())) else (at' y2 3).bind fun v37=>(bif (decide ((v37.toNat:Int)<128)) then some (.inr (Sum.inl ())) else (at' y2 3).bind fun v38=>(bif (decide (191<(v38.toNat:Int))) then some (.inr (Sum.inl ())) else (sub' y2 4 (y2.length:Int)).bind fun v39=>some (.inl v39)))))))) else some (.inr (Sum.inl ())))))) else some (.inr (Sum.inr ())))
noncomputable def utf8_Valid (p:(List UInt8)):Option Bool:=
  (sub3 p 0 (p.length:Int) (p.length:Int)).bind fun v1=>(iter (QR) v1).bind (Sum.elim (fun (q40:Unit)=>some false) (fun (q41:Unit)=>some true))
noncomputable def utf_Valid (b:(List UInt8)):Option Bool:=
  (utf8_Valid b).bind fun v1=>some v1
noncomputable def Qe (p:(List UInt8)):Option (Int×Int):=
  (bif (decide ((p.length:Int)<1)) then some (65533,0) else (at' p 0).bind fun v1=>(at' utf8First (v1.toNat:Int)).bind fun v2=>(bif (decide ((v2.toNat:Int)≥240)) then (at' p 0).bind fun v3=>some ((w32 (bor 32 (w32 (bandn 32 (w32 (v3.toNat:Int)) ((w32 ((w32 (v2.toNat:Int))*2^31)).fdiv (2^31)))) (w32 (band 32 65533 ((w32 ((w32 (v2.toNat:Int))*2^31)).fdiv (2^31)))))),1) else (at' utf8Ranges ((u8 ((v2.toNat:Int).fdiv (2^4))).toNat:Int)).bind fun v4=>(bif (decide ((p.length:Int)<(w64 ((u8 (band 8 (v2.toNat:Int) 7)).toNat:Int)))) then some (65533,1) else (at' p 1).bind fun v5=>((bif (decide ((v5.toNat:Int)<(v4.lo.toNat:Int))) then some true else some (decide ((v4.hi.toNat:Int)<(v5.toNat:Int)))):Option (Bool)).bind (fun (q6:Bool)=>(bif q6 then some (65533,1) else (bif (decide ((w64 ((u8 (band 8 (v2.toNat:Int) 7)).toNat:Int))≤2)) then some ((w32 (bor 32 (w32 ((w32 ((u8 (band 8 (v1.toNat:Int) 31)).toNat:Int))*2^6)) (w32 ((u8 (band 8 (v5.toNat:Int) 63)).toNat:Int)))),2) else (at' p 2).bind fun v7=>((bif (decide ((v7.toNat:Int)<128)) then some true else some (decide (191<(v7.toNat:Int)))):Option (Bool)).bind (fun (q8:Bool)=>(bif q8 then some (65533,1) else (bif (decide ((w64 ((u8 (band 8 (v2.toNat:Int) 7)).toNat:Int))≤3)) then some ((w32 (bor 32 (w32 (bor 32 (w32 ((w32 ((u8 (band 8 (v1.toNat:Int) 15)).toNat:Int))*2^12)) (w32 ((w32 ((u8 (band 8 (v5.toNat:Int) 63)).toNat:Int))*2^6)))) (w32 ((u8 (band 8 (v7.toNat:Int) 63)).toNat:Int)))),3) else (at' p 3).bind fun v9=>((bif (decide ((v9.toNat:Int)<128)) then some true else some (decide (191<(v9.toNat:Int)))):Option (Bool)).bind (fun (q10:Bool)=>(bif q10 then some (65533,1) else some ((w32 (bor 32 (w32 (bor 32 (w32 (bor 32 (w32 ((w32 ((u8 (band 8 (v1.toNat:Int) 7)).toNat:Int))*2^18)) (w32 ((w32 ((u8 (band 8 (v5.toNat:Int) 63)).toNat:Int))*2^12)))) (w32 ((w32 ((u8 (band 8 (v7.toNat:Int) 63)).toNat:Int))*2^6)))) (w32 ((u8 (band 8 (v9.toNat:Int) 63)).toNat:Int)))),4))))))))))))
noncomputable def Js (p:(List UInt8))(y1:Unit):Option (Unit⊕(Int⊕Unit)):=
  (bif (decide (0<(p.length:Int))) then (at' p 0).bind fun v2=>(bif (decide ((v2.toNat:Int)<128)) then some (.inr (Sum.inl (w32 (v2.toNat:Int)))) else some (.inr (Sum.inr ()))) else some (.inr (Sum.inr ())))
noncomputable def Jx (p:(List UInt8)):Option (Int×Int):=
  (iter (Js p) ()).bind (Sum.elim (fun (q3:Int)=>some (q3,1)) (fun (q4:Unit)=>(Qe p).bind fun v5=>some (v5.1,v5.2)))
noncomputable def Jn (b:(List UInt8))(y2:Int×(List Int)):Option ((Int×(List Int))⊕(List Int)):=
  (bif (decide (y2.1<(b.length:Int))) then (sub' b y2.1 (b.length:Int)).bind fun v3=>(Jx v3).bind fun v4=>(app 4 y2.2 [v4.1]).bind fun v5=>some (.inl ((w64 (y2.1+v4.2)),v5)) else some (.inr y2.2))
noncomputable def utf_Chars (b:(List UInt8)):Option ((List Int)×Bool):=
  (utf_Valid b).bind fun v1=>(bif (!v1) then some ([],false) else (iter (Jn b) (0,[])).bind (fun (q6:(List Int))=>some (q6,true)))
noncomputable def utf_Xml (r_:Int):Option Bool:=
  ((bif (r_==9) then (bif (r_==9) then some (Sum.inl ()) else some (Sum.inr ())) else (bif (r_==10) then (bif (r_==10) then some (Sum.inl ()) else some (Sum.inr ())) else (bif (r_==13) then some (Sum.inl ()) else some (Sum.inr ())))):Option (Unit⊕Unit)).bind (Sum.elim (fun (q1:Unit)=>some true) (fun (q2:Unit)=>(bif (decide (r_≥32)) then (bif (decide (r_≤55295)) then some true else (bif (decide (r_≥57344)) then (bif (decide (r_≤65533)) then some true else (bif (decide (r_≥65536)) then some (decide (r_≤1114111)) else some false)) else (bif (decide (r_≥65536)) then some (decide (r_≤1114111)) else some false))) else (bif (decide (r_≥57344)) then (bif (decide (r_≤65533)) then some true else (bif (decide (r_≥65536)) then some (decide (r_≤1114111)) else some false)) else (bif (decide (r_≥65536)) then some (decide (r_≤1114111)) else some false)))))
noncomputable def zal (v1:(List Int)×Bool)(y2:Bool×Int):Option ((Bool×Int)⊕Bool):=
  (bif (decide (y2.2<(v1.1.length:Int))) then (at' v1.1 y2.2).bind fun v3=>(bif y2.1 then (utf_Xml v3).bind fun v4=>some (.inl (v4,(w64 (y2.2+1)))) else some (.inl (false,(w64 (y2.2+1))))) else some (.inr y2.1))
noncomputable def utf_Text (b:(List UInt8)):Option Bool:=
  (utf_Chars b).bind fun v1=>(iter (zal v1) (v1.2,0)).bind (fun (q5:Bool)=>some q5)
noncomputable def J6 (s:Str)(sep:Str):Option Int:=
  bif decide (s.length<4294967281∧1≤sep.length) then some ((Go.Lib.countB ⟨s.toArray⟩ ⟨sep.toArray⟩:Int)) else none
noncomputable def stringslite_Index (s:Str)(sep:Str):Option Int:=
  bif decide (s.length<4294967281) then some (Go.Lib.index s sep) else none
noncomputable def Qj (s:Str)(substr:Str):Option Int:=
  (stringslite_Index s substr).bind fun v1=>some v1
noncomputable def Zw (s:Str):Option (Int×Int):=
  (bif (decide ((s.length:Int)<1)) then some (65533,0) else (at' s 0).bind fun v1=>(at' utf8First (v1.toNat:Int)).bind fun v2=>(bif (decide ((v2.toNat:Int)≥240)) then (at' s 0).bind fun v3=>some ((w32 (bor 32 (w32 (bandn 32 (w32 (v3.toNat:Int)) ((w32 ((w32 (v2.toNat:Int))*2^31)).fdiv (2^31)))) (w32 (band 32 65533 ((w32 ((w32 (v2.toNat:Int))*2^31)).fdiv (2^31)))))),1) else (at' utf8Ranges ((u8 ((v2.toNat:Int).fdiv (2^4))).toNat:Int)).bind fun v4=>(bif (decide ((s.length:Int)<(w64 ((u8 (band 8 (v2.toNat:Int) 7)).toNat:Int)))) then some (65533,1) else (at' s 1).bind fun v5=>((bif (decide ((v5.toNat:Int)<(v4.lo.toNat:Int))) then some true else some (decide ((v4.hi.toNat:Int)<(v5.toNat:Int)))):Option (Bool)).bind (fun (q6:Bool)=>(bif q6 then some (65533,1) else (bif (decide ((w64 ((u8 (band 8 (v2.toNat:Int) 7)).toNat:Int))≤2)) then some ((w32 (bor 32 (w32 ((w32 ((u8 (band 8 (v1.toNat:Int) 31)).toNat:Int))*2^6)) (w32 ((u8 (band 8 (v5.toNat:Int) 63)).toNat:Int)))),2) else (at' s 2).bind fun v7=>((bif (decide ((v7.toNat:Int)<128)) then some true else some (decide (191<(v7.toNat:Int)))):Option (Bool)).bind (fun (q8:Bool)=>(bif q8 then some (65533,1) else (bif (decide ((w64 ((u8 (band 8 (v2.toNat:Int) 7)).toNat:Int))≤3)) then some ((w32 (bor 32 (w32 (bor 32 (w32 ((w32 ((u8 (band 8 (v1.toNat:Int) 15)).toNat:Int))*2^12)) (w32 ((w32 ((u8 (band 8 (v5.toNat:Int) 63)).toNat:Int))*2^6)))) (w32 ((u8 (band 8 (v7.toNat:Int) 63)).toNat:Int)))),3) else (at' s 3).bind fun v9=>((bif (decide ((v9.toNat:Int)<128)) then some true else some (decide (191<(v9.toNat:Int)))):Option (Bool)).bind (fun (q10:Bool)=>(bif q10 then some (65533,1) else some ((w32 (bor 32 (w32 (bor 32 (w32 (bor 32 (w32 ((w32 ((u8 (band 8 (v1.toNat:Int) 7)).toNat:Int))*2^18)) (w32 ((w32 ((u8 (band 8 (v5.toNat:Int) 63)).toNat:Int))*2^12)))) (w32 ((w32 ((u8 (band 8 (v7.toNat:Int) 63)).toNat:Int))*2^6)))) (w32 ((u8 (band 8 (v9.toNat:Int) 63)).toNat:Int)))),4))))))))))))
noncomputable def Z2 (s:Str):Option (Int×Int):=
  (bif (!(s==[])) then (at' s 0).bind fun v1=>(bif (decide ((v1.toNat:Int)<128)) then (at' s 0).bind fun v2=>some ((w32 (v2.toNat:Int)),1) else (Zw s).bind fun v3=>some (v3.1,v3.2)) else (Zw s).bind fun v4=>some (v4.1,v4.2))
noncomputable def Zo (u1:Bool):Option Unit:=
  (bif u1 then some () else some ())
noncomputable def Z0 (u1:Int)(u2:Bool):Option Unit:=
  (mnz (w64 ((w64 (2*0))+u1))).bind fun v1=>(rng (v1:Int) 0 0).bind fun _=>some ()
noncomputable def qR (u1:Int)(u2:Bool):Option Unit:=
  (Zo u2).bind fun v1=>(bif (decide (u1<0)) then none else (bif (decide ((w64 (0-0))<u1)) then (Z0 u1 false).bind fun v2=>some () else some ()))
noncomputable def Zn (u1:Bool)(u2:(List UInt8)):Option Unit:=
  (bif u1 then some () else some ())
noncomputable def ze (u1:Str)(u2:Bool)(u3:(List UInt8)):Option (Int×(List UInt8)):=
  (Zn u2 u3).bind fun v1=>(app 1 u3 u1).bind fun v2=>some ((u1.length:Int),v2)
noncomputable def zA (u1:Bool)(u2:(List UInt8)):Option Str:=
  (unsf u2).bind fun v1=>some v1
noncomputable def ZM (s:Str)(old:Str)(new:Str)(v2:Int)(y5:Int×Int×(List UInt8)):Option ((Int×Int×(List UInt8))⊕(Int×(List UInt8))):=
  (bif (decide (y5.2.1<v2)) then (sub' s y5.1 (s.length:Int)).bind fun v6=>(Qj v6 old).bind fun v7=>(sub' s y5.1 (w64 (y5.1+v7))).bind fun v8=>(ze v8 false y5.2.2).bind fun v9=>(ze new false v9.2).bind fun v10=>some (.inl ((w64 ((w64 (y5.1+v7))+(old.length:Int))),(w64 (y5.2.1+1)),v10.2)) else some (.inr (y5.1,y5.2.2)))
noncomputable def strings_Replace_b2 (s:Str)(new:Str)(v2:Int)(y16:Int×Int×(List UInt8)):Option ((Int×Int×(List UInt8))⊕(Int×(List UInt8))):=
  (bif (decide (y16.2.1<(w64 (v2-1)))) then (sub' s y16.1 (s.length:Int)).bind fun v17=>(Z2 v17).bind fun v18=>(sub' s y16.1 (w64 (y16.1+v18.2))).bind fun v19=>(ze v19 false y16.2.2).bind fun v20=>(ze new false v20.2).bind fun v21=>some (.inl ((w64 (y16.1+v18.2)),(w64 (y16.2.1+1)),v21.2)) else some (.inr (y16.1,y16.2.2)))
noncomputable def strings_Replace_b3 (s:Str)(old:Str)(new:Str)(n:Int)(y27:Int×Int×(List UInt8)):Option ((Int×Int×(List UInt8))⊕(Int×(List UInt8))):=
  (bif (decide (y27.2.1<n)) then (sub' s y27.1 (s.length:Int)).bind fun v28=>(Qj v28 old).bind fun v29=>(sub' s y27.1 (w64 (y27.1+v29))).bind fun v30=>(ze v30 false y27.2.2).bind fun v31=>(ze new false v31.2).bind fun v32=>some (.inl ((w64 ((w64 (y27.1+v29))+(old.length:Int))),(w64 (y27.2.1+1)),v32.2)) else some (.inr (y27.1,y27.2.2)))
noncomputable def strings_Replace_b4 (s:Str)(new:Str)(n:Int)(y38:Int×Int×(List UInt8)):Option ((Int×Int×(List UInt8))⊕(Int×(List UInt8))):=
  (bif (decide (y38.2.1<(w64 (n-1)))) then (sub' s y38.1 (s.length:Int)).bind fun v39=>(Z2 v39).bind fun v40=>(sub' s y38.1 (w64 (y38.1+v40.2))).bind fun v41=>(ze v41 false y38.2.2).bind fun v42=>(ze new false v42.2).bind fun v43=>some (.inl ((w64 (y38.1+v40.2)),(w64 (y38.2.1+1)),v43.2)) else some (.inr (y38.1,y38.2.2)))
noncomputable def Jy (s:Str)(old:Str)(new:Str)(n:Int):Option Str:=
  ((bif (old==new) then some true else some (n==0)):Option (Bool)).bind (fun (q1:Bool)=>(bif q1 then some s else (J6 s old).bind fun v2=>(bif (v2==0) then some s else ((bif (decide (n<0)) then some true else some (decide (v2<n))):Option (Bool)).bind (fun (q3:Bool)=>(bif q3 then (qR (w64 ((s.length:Int)+(w64 (v2*(w64 ((new.length:Int)-(old.length:Int))))))) true).bind fun v4=>(bif (decide ((old.length:Int)>0)) then (iter (ZM s old new v2) (0,0,[])).bind (fun (q11:Int×(List UInt8))=>(sub' s q11.1 (s.length:Int)).bind fun v12=>(ze v12 false q11.2).bind fun v13=>(zA false v13.2).bind fun v14=>some v14) else (ze new false []).bind fun v15=>(iter (strings_Replace_b2 s new v2) (0,0,v15.2)).bind (fun (q22:Int×(List UInt8))=>(sub' s q22.1 (s.length:Int)).bind fun v23=>(ze v23 false q22.2).bind fun v24=>(zA false v24.2).bind fun v25=>some v25)) else (qR (w64 ((s.length:Int)+(w64 (n*(w64 ((new.length:Int)-(old.length:Int))))))) true).bind fun v26=>(bif (decide ((old.length:Int)>0)) then (iter (strings_Replace_b3 s old new n) (0,0,[])).bind (fun (q33:Int×(List UInt8))=>(sub' s q33.1 (s.length:Int)).bind fun v34=>(ze v34 false q33.2).bind fun v35=>(zA false v35.2).bind fun v36=>some v36) else (ze new false []).bind fun v37=>(iter (strings_Replace_b4 s new n) (0,0,v37.2)).bind (fun (q44:Int×(List UInt8))=>(sub' s q44.1 (s.length:Int)).bind fun v45=>(ze v45 false q44.2).bind fun v46=>(zA false v46.2).bind fun v47=>some v47)))))))
noncomputable def Qm (s:Str)(old:Str)(new:Str):Option Str:=
  (Jy s old new (-1)).bind fun v1=>some v1
noncomputable def chars_Lines (s:Str):Option Str:=
  (Qm s [13,10] [10]).bind fun v1=>(Qm v1 [13] [10]).bind fun v2=>some v2
noncomputable def Qt (c:UInt8):Option Bool:=
  (bif ((c.toNat:Int)==32) then some true else (bif ((c.toNat:Int)==9) then some true else (bif ((c.toNat:Int)==10) then some true else some ((c.toNat:Int)==13))))
noncomputable def Zf (s:Str)(prefix_:Str):Option Bool:=
  (bif (decide ((s.length:Int)≥(prefix_.length:Int))) then (sub' s 0 (prefix_.length:Int)).bind fun v1=>some (v1==prefix_) else some false)
noncomputable def Z1 (s:Str)(prefix_:Str):Option Bool:=
  (Zf s prefix_).bind fun v1=>some v1
noncomputable def Qw (s:Str)(prefix_:Str):Option (Str×Bool):=
  (Zf s prefix_).bind fun v1=>(bif (!v1) then some (s,false) else (sub' s (prefix_.length:Int) (s.length:Int)).bind fun v2=>some (v2,true))
noncomputable def ZC (s:Str)(prefix_:Str):Option (Str×Bool):=
  (Qw s prefix_).bind fun v1=>some (v1.1,v1.2)
noncomputable def qD (s:Str)(substr:Str):Option Bool:=
  (Qj s substr).bind fun v1=>some (decide (v1≥0))
noncomputable def J7 (s:Str)(sep:Str):Option (Str×Str×Bool):=
  (stringslite_Index s sep).bind fun v1=>(bif (decide (v1≥0)) then (sub' s 0 v1).bind fun v2=>(sub' s (w64 (v1+(sep.length:Int))) (s.length:Int)).bind fun v3=>some (v2,v3,true) else some (s,[],false))
noncomputable def qw (s:Str)(sep:Str):Option (Str×Str×Bool):=
  (J7 s sep).bind fun v1=>some (v1.1,v1.2.1,v1.2.2)
noncomputable def QS (s:Str)(y1:Int×(List UInt8)):Option ((Int×(List UInt8))⊕(List UInt8)):=
  (bif (decide (y1.1<(s.length:Int))) then (at' y1.2 y1.1).bind fun v2=>(bif (decide ((v2.toNat:Int)≥65)) then (bif (decide ((v2.toNat:Int)≤90)) then (at' y1.2 y1.1).bind fun v3=>(put y1.2 y1.1 ((v2+97)-65)).bind fun v4=>some (.inl ((w64 (y1.1+1)),v4)) else some (.inl ((w64 (y1.1+1)),y1.2))) else some (.inl ((w64 (y1.1+1)),y1.2))) else some (.inr y1.2))
noncomputable def parse_fold (s:Str):Option Str:=
  (iter (QS s) (0,s)).bind (fun (q5:(List UInt8))=>some q5)
noncomputable def JH (r_:Int)(l:(List qq))(y1:Int):Option (Int⊕(Unit⊕Unit)):=
  (bif (decide (y1<(l.length:Int))) then (at' l y1).bind fun v2=>(bif (decide (r_≥v2.from_)) then (bif (decide (r_≤v2.to_)) then some (.inr (Sum.inl ())) else some (.inl (w64 (y1+1)))) else some (.inl (w64 (y1+1)))) else some (.inr (Sum.inr ())))
noncomputable def name_in (r_:Int)(l:(List qq)):Option Bool:=
  (iter (JH r_ l) 0).bind (Sum.elim (fun (q3:Unit)=>some true) (fun (q4:Unit)=>some false))
noncomputable def zas (r_:Int):Option Bool:=
  (bif (r_==95) then some true else (name_in r_ [(qq.mk 65 90),(qq.mk 97 122),(qq.mk 192 214),(qq.mk 216 246),(qq.mk 248 767),(qq.mk 880 893),(qq.mk 895 8191),(qq.mk 8204 8205),(qq.mk 8304 8591),(qq.mk 11264 12271),(qq.mk 12289 55295),(qq.mk 63744 64975),(qq.mk 65008 65533),(qq.mk 65536 983039)]).bind fun v1=>some v1)
noncomputable def zar (r_:Int):Option Bool:=
  (zas r_).bind fun v1=>(bif v1 then some true else (bif (r_==45) then some true else (bif (r_==46) then some true else (bif (r_==183) then some true else (name_in r_ [(qq.mk 48 57),(qq.mk 768 879),(qq.mk 8255 8256)]).bind fun v2=>some v2))))
noncomputable def JL (v1:(List Int)×Bool)(y4:Int):Option (Int⊕(Unit⊕Unit)):=
  (bif (decide (y4<(v1.1.length:Int))) then (at' v1.1 y4).bind fun v5=>(zar v5).bind fun v6=>(bif (!v6) then some (.inr (Sum.inl ())) else some (.inl (w64 (y4+1)))) else some (.inr (Sum.inr ())))
noncomputable def Jr (s:Str):Option Bool:=
  (utf_Chars s).bind fun v1=>(bif (!v1.2) then some false else (bif ((v1.1.length:Int)==0) then some false else (at' v1.1 0).bind fun v2=>(zas v2).bind fun v3=>(bif (!v3) then some false else (iter (JL v1) 0).bind (Sum.elim (fun (q7:Unit)=>some false) (fun (q8:Unit)=>some true)))))
noncomputable def name_Split (s:Str):Option (Str×Str×Bool):=
  (qw s [58]).bind fun v1=>(bif (!v1.2.2) then (bif v1.2.2 then (Jr []).bind fun v2=>(bif (!v2) then some ([],[],false) else (Jr s).bind fun v3=>(bif (!v3) then some ([],[],false) else some ([],s,true))) else (Jr s).bind fun v4=>(bif (!v4) then some ([],[],false) else some ([],s,true))) else (bif v1.2.2 then (Jr v1.1).bind fun v5=>(bif (!v5) then some ([],[],false) else (Jr v1.2.1).bind fun v6=>(bif (!v6) then some ([],[],false) else some (v1.1,v1.2.1,true))) else (Jr v1.2.1).bind fun v7=>(bif (!v7) then some ([],[],false) else some (v1.1,v1.2.1,true))))
noncomputable def atomic_b32 (b:Bool):Option Int:=
  (bif b then some 1 else some 0)
noncomputable def chars_named (s:Str):Option (Str×Bool):=
  (bif (s==[108,116]) then some ([60],true) else (bif (s==[103,116]) then some ([62],true) else (bif (s==[97,109,112]) then some ([38],true) else (bif (s==[97,112,111,115]) then some ([39],true) else (bif (s==[113,117,111,116]) then some ([34],true) else some ([],false))))))
noncomputable def qu (s:Str)(base:Int)(y1:Int×Int):Option ((Int×Int)⊕(Unit⊕Int)):=
  (bif (decide (y1.2<(s.length:Int))) then (at' s y1.2).bind fun v2=>((bif (decide ((w32 (v2.toNat:Int))≥48)) then some (decide ((w32 (v2.toNat:Int))≤57)) else some false):Option (Bool)).bind (fun (q3:Bool)=>(bif q3 then (bif (decide ((w32 ((w32 (v2.toNat:Int))-48))≥base)) then some (.inr (Sum.inl ())) else some (.inl ((mn (w32 ((w32 (y1.1*base))+(w32 ((w32 (v2.toNat:Int))-48)))) 1114112),(w64 (y1.2+1))))) else ((bif (decide ((w32 (v2.toNat:Int))≥97)) then some (decide ((w32 (v2.toNat:Int))≤102)) else some false):Option (Bool)).bind (fun (q4:Bool)=>(bif q4 then (bif (decide ((w32 ((w32 ((w32 (v2.toNat:Int))-97))+10))≥base)) then some (.inr (Sum.inl ())) else some (.inl ((mn (w32 ((w32 (y1.1*base))+(w32 ((w32 ((w32 (v2.toNat:Int))-97))+10)))) 1114112),(w64 (y1.2+1))))) else (bif (decide ((w32 (v2.toNat:Int))≥65)) then (bif (decide ((w32 (v2.toNat:Int))≤70)) then (bif (decide ((w32 ((w32 ((w32 (v2.toNat:Int))-65))+10))≥base)) then some (.inr (Sum.inl ())) else some (.inl ((mn (w32 ((w32 (y1.1*base))+(w32 ((w32 ((w32 (v2.toNat:Int))-65))+10)))) 1114112),(w64 (y1.2+1))))) else (bif (decide (base≥base)) then some (.inr (Sum.inl ())) else some (.inl ((mn (w32 ((w32 (y1.1*base))+base)) 1114112),(w64 (y1.2+1)))))) else (bif (decide (base≥base)) then some (.inr (Sum.inl ())) else some (.inl ((mn (w32 ((w32 (y1.1*base))+base)) 1114112),(w64 (y1.2+1)))))))))) else some (.inr (Sum.inr y1.1)))
noncomputable def Jm (s:Str)(base:Int):Option (Int×Bool):=
  (iter (qu s base) (0,0)).bind (Sum.elim (fun (q5:Unit)=>some (0,false)) (fun (q6:Int)=>some (q6,(!(s==[])))))
noncomputable def JR (r_:Int):Option Bool:=
  (bif (decide (0≤r_)) then (bif (decide (r_<55296)) then some true else (bif (decide (57343<r_)) then (bif (decide (r_≤1114111)) then some true else some false) else some false)) else (bif (decide (57343<r_)) then (bif (decide (r_≤1114111)) then some true else some false) else some false))
noncomputable def Z3 (p:(List UInt8))(r_:Int):Option (List UInt8):=
  (bif (decide ((v32 r_)≤2047)) then (app 1 p [(u8 (bor 8 192 ((u8 (r_.fdiv (2^6))).toNat:Int))),(u8 (bor 8 128 ((u8 (band 8 ((u8 r_).toNat:Int) 63)).toNat:Int)))]).bind fun v1=>some v1 else (bif (decide ((v32 r_)<55296)) then (bif (decide ((v32 r_)<55296)) then (app 1 p [(u8 (bor 8 224 ((u8 (r_.fdiv (2^12))).toNat:Int))),(u8 (bor 8 128 ((u8 (band 8 ((u8 (r_.fdiv (2^6))).toNat:Int) 63)).toNat:Int))),(u8 (bor 8 128 ((u8 (band 8 ((u8 r_).toNat:Int) 63)).toNat:Int)))]).bind fun v2=>some v2 else ((bif (decide ((v32 r_)>65535)) then some (decide ((v32 r_)≤1114111)) else some false):Option (Bool)).bind (fun (q3:Bool)=>(bif q3 then (app 1 p [(u8 (bor 8 240 ((u8 (r_.fdiv (2^18))).toNat:Int))),(u8 (bor 8 128 ((u8 (band 8 ((u8 (r_.fdiv (2^12))).toNat:Int) 63)).toNat:Int))),(u8 (bor 8 128 ((u8 (band 8 ((u8 (r_.fdiv (2^6))).toNat:Int) 63)).toNat:Int))),(u8 (bor 8 128 ((u8 (band 8 ((u8 r_).toNat:Int) 63)).toNat:Int)))]).bind fun v4=>some v4 else (app 1 p [239,191,189]).bind fun v5=>some v5))) else (bif (decide (57343<(v32 r_))) then (bif (decide ((v32 r_)≤65535)) then (app 1 p [(u8 (bor 8 224 ((u8 (r_.fdiv (2^12))).toNat:Int))),(u8 (bor 8 128 ((u8 (band 8 ((u8 (r_.fdiv (2^6))).toNat:Int) 63)).toNat:Int))),(u8 (bor 8 128 ((u8 (band 8 ((u8 r_).toNat:Int) 63)).toNat:Int)))]).bind fun v6=>some v6 else ((bif (decide ((v32 r_)>65535)) then some (decide ((v32 r_)≤1114111)) else some false):Option (Bool)).bind (fun (q7:Bool)=>(bif q7 then (app 1 p [(u8 (bor 8 240 ((u8 (r_.fdiv (2^18))).toNat:Int))),(u8 (bor 8 128 ((u8 (band 8 ((u8 (r_.fdiv (2^12))).toNat:Int) 63)).toNat:Int))),(u8 (bor 8 128 ((u8 (band 8 ((u8 (r_.fdiv (2^6))).toNat:Int) 63)).toNat:Int))),(u8 (bor 8 128 ((u8 (band 8 ((u8 r_).toNat:Int) 63)).toNat:Int)))]).bind fun v8=>some v8 else (app 1 p [239,191,189]).bind fun v9=>some v9))) else ((bif (decide ((v32 r_)>65535)) then some (decide ((v32 r_)≤1114111)) else some false):Option (Bool)).bind (fun (q10:Bool)=>(bif q10 then (app 1 p [(u8 (bor 8 240 ((u8 (r_.fdiv (2^18))).toNat:Int))),(u8 (bor 8 128 ((u8 (band 8 ((u8 (r_.fdiv (2^12))).toNat:Int) 63)).toNat:Int))),(u8 (bor 8 128 ((u8 (band 8 ((u8 (r_.fdiv (2^6))).toNat:Int) 63)).toNat:Int))),(u8 (bor 8 128 ((u8 (band 8 ((u8 r_).toNat:Int) 63)).toNat:Int)))]).bind fun v11=>some v11 else (app 1 p [239,191,189]).bind fun v12=>some v12)))))
noncomputable def Jw (p:(List UInt8))(r_:Int):Option (List UInt8):=
  (bif (decide ((v32 r_)≤127)) then (app 1 p [(u8 r_)]).bind fun v1=>some v1 else (Z3 p r_).bind fun v2=>some v2)
noncomputable def utf_Bytes_b1 (l:(List Int))(y1:Int×(List UInt8)):Option ((Int×(List UInt8))⊕(Unit⊕(List UInt8))):=
  (bif (decide (y1.1<(l.length:Int))) then (at' l y1.1).bind fun v2=>(JR v2).bind fun v3=>(bif (!v3) then some (.inr (Sum.inl ())) else (Jw y1.2 v2).bind fun v4=>some (.inl ((w64 (y1.1+1)),v4))) else some (.inr (Sum.inr y1.2)))
noncomputable def utf_Bytes (l:(List Int)):Option ((List UInt8)×Bool):=
  (iter (utf_Bytes_b1 l) (0,[])).bind (Sum.elim (fun (q5:Unit)=>some ([],false)) (fun (q6:(List UInt8))=>some (q6,true)))
noncomputable def QJ (s:Str):Option (Str×Bool):=
  (ZC s [35]).bind fun v1=>(bif (!v1.2) then (chars_named s).bind fun v2=>some (v2.1,v2.2) else (ZC v1.1 [120]).bind fun v3=>(bif v3.2 then (Jm v3.1 16).bind fun v4=>(bif (!v4.2) then some ([],false) else (utf_Xml v4.1).bind fun v5=>(bif (!v5) then some ([],false) else (utf_Bytes [v4.1]).bind fun v6=>some (v6.1,v6.2))) else (Jm v1.1 10).bind fun v7=>(bif (!v7.2) then some ([],false) else (utf_Xml v7.1).bind fun v8=>(bif (!v8) then some ([],false) else (utf_Bytes [v7.1]).bind fun v9=>some (v9.1,v9.2)))))
noncomputable def qI (s:Str)(plain:(Str→Option Str))(y4:Unit⊕(Str×(List UInt8))):Option ((Unit⊕(Str×(List UInt8)))⊕(Str×Bool)):=
  (Sum.elim (fun (y4:Unit)=>(qw s [38]).bind fun v5=>(plain v5.1).bind fun v6=>(ze v6 true []).bind fun v7=>(bif (!v5.2.2) then (zA false v7.2).bind fun v8=>some (.inr (v8,true)) else (qw v5.2.1 [59]).bind fun v9=>(QJ v9.1).bind fun v10=>(bif (!v9.2.2) then some (.inr ([],false)) else (bif (!v10.2) then some (.inr ([],false)) else (ze v10.1 false v7.2).bind fun v11=>some (.inl (Sum.inr (v9.2.1,v11.2))))))) (fun (y4:Str×(List UInt8))=>(qw y4.1 [38]).bind fun v12=>(plain v12.1).bind fun v13=>(ze v13 false y4.2).bind fun v14=>(bif (!v12.2.2) then (zA false v14.2).bind fun v15=>some (.inr (v15,true)) else (qw v12.2.1 [59]).bind fun v16=>(QJ v16.1).bind fun v17=>(bif (!v16.2.2) then some (.inr ([],false)) else (bif (!v17.2) then some (.inr ([],false)) else (ze v17.1 false v14.2).bind fun v18=>some (.inl (Sum.inr (v16.2.1,v18.2)))))))) y4
noncomputable def chars_expand (s:Str)(plain:(Str→Option Str)):Option (Str×Bool):=
  ((utf_Text s).bind fun v1=>(bif (!v1) then some true else (qD s [60]).bind fun v2=>some v2):Option (Bool)).bind (fun (q3:Bool)=>(bif q3 then some ([],false) else (iter (qI s plain) (Sum.inl ())).bind (fun (q19:Str×Bool)=>some (q19.1,q19.2))))
noncomputable def ZF (u1:(List Str)):Option (List Str):=
  (bif (((u1.length:Int).tmod 2)==1) then none else (app 16 [] u1).bind fun v1=>some v1)
noncomputable def QZ (u1:(List Str)):Option Unit:=
  some ()
noncomputable def Jk (u1:(List Str)):Option Unit:=
  some ()
noncomputable def QD (u1:(List Str)):Option Unit:=
  (Jk u1).bind fun v1=>some ()
noncomputable def QY (u1:(List Str)):Option Unit:=
  some ()
noncomputable def Z5 (u1:(List Str))(y5:Bool×Int):Option ((Bool×Int)⊕Bool):=
  (bif (decide (y5.2<(u1.length:Int))) then (at' u1 y5.2).bind fun v6=>(bif ((v6.length:Int) != 1) then none else (at' u1 (w64 (y5.2+1))).bind fun v7=>(bif ((v7.length:Int) != 1) then some (.inl (false,(w64 (y5.2+2)))) else some (.inl (y5.1,(w64 (y5.2+2)))))) else some (.inr y5.1))
noncomputable def Z7 (y9:Int×(List UInt8)):Option ((Int×(List UInt8))⊕(List UInt8)):=
  (bif (decide (y9.1<256)) then (atA 256 y9.2 y9.1).bind fun v10=>(put y9.2 y9.1 (u8 y9.1)).bind fun v11=>some (.inl ((w64 (y9.1+1)),v11)) else some (.inr y9.2))
noncomputable def Z6 (u1:(List Str))(y13:Int×(List UInt8)):Option ((Int×(List UInt8))⊕(List UInt8)):=
  (bif (decide (y13.1≥0)) then (at' u1 y13.1).bind fun v14=>(at' v14 0).bind fun v15=>(at' u1 (w64 (y13.1+1))).bind fun v16=>(at' v16 0).bind fun v17=>(atA 256 y13.2 (v15.toNat:Int)).bind fun v18=>(put y13.2 (v15.toNat:Int) v17).bind fun v19=>some (.inl ((w64 (y13.1-2)),v19)) else some (.inr y13.2))
noncomputable def Za (u1:(List Str)):Option (List UInt8):=
  ((bif ((u1.length:Int)==2) then (at' u1 0).bind fun v1=>some (decide ((v1.length:Int)>1)) else some false):Option (Bool)).bind (fun (q2:Bool)=>(bif q2 then none else (iter (Z5 u1) (true,0)).bind (fun (q8:Bool)=>(bif q8 then (iter (Z7) (0,(List.replicate 256 0))).bind (fun (q12:(List UInt8))=>(iter (Z6 u1) ((w64 ((u1.length:Int)-2)),q12)).bind (fun (q20:(List UInt8))=>some q20)) else none))))
noncomputable def Zd (u1:(List Str)):Option (List UInt8):=
  (Za u1).bind fun v1=>some v1
noncomputable def JJ (u1:(List UInt8)):Option Unit:=
  some ()
noncomputable def JI (u1:(List UInt8)):Option Unit:=
  some ()
noncomputable def Ji (u1:(List UInt8)):Option Unit:=
  (JI u1).bind fun v1=>some ()
noncomputable def QX (u1:(List Str)):Option (List UInt8):=
  (QD u1).bind fun v1=>(QY u1).bind fun v2=>(Zd u1).bind fun v3=>(JJ v3).bind fun v4=>(Ji v3).bind fun v5=>some v3
noncomputable def Ju (u1:(List Str)):Option (List UInt8):=
  (QZ u1).bind fun v1=>(QX u1).bind fun v2=>some v2
noncomputable def zm (u1:Str)(u2:(List UInt8))(y1:Int⊕(Int×(List UInt8))):Option ((Int⊕(Int×(List UInt8)))⊕(Unit⊕(List UInt8))):=
  (Sum.elim (fun (y1:Int)=>(bif (decide (y1<(u1.length:Int))) then (at' u1 y1).bind fun v2=>(atA 256 u2 (v2.toNat:Int)).bind fun v3=>(bif ((v3.toNat:Int) != (v2.toNat:Int)) then (atA 256 u2 (v2.toNat:Int)).bind fun v4=>(at' u1 y1).bind fun v5=>(put u1 y1 v4).bind fun v6=>some (.inl (Sum.inr ((w64 (y1+1)),v6))) else some (.inl (Sum.inl (w64 (y1+1))))) else some (.inr (Sum.inl ())))) (fun (y1:Int×(List UInt8))=>(bif (decide (y1.1<(u1.length:Int))) then (at' u1 y1.1).bind fun v7=>(atA 256 u2 (v7.toNat:Int)).bind fun v8=>(bif ((v8.toNat:Int) != (v7.toNat:Int)) then (ne0 y1.2).bind fun v9=>(atA 256 u2 (v7.toNat:Int)).bind fun v10=>(at' y1.2 y1.1).bind fun v11=>(put y1.2 y1.1 v10).bind fun v12=>some (.inl (Sum.inr ((w64 (y1.1+1)),v12))) else some (.inl (Sum.inr ((w64 (y1.1+1)),y1.2)))) else some (.inr (Sum.inr y1.2))))) y1
noncomputable def qe (u1:Str)(u2:(List UInt8)):Option Str:=
  (iter (zm u1 u2) (Sum.inl 0)).bind (Sum.elim (fun (q13:Unit)=>some u1) (fun (q14:(List UInt8))=>(ne0 q14).bind fun v15=>some q14))
noncomputable def qN (u1:Str)(u2:(List Str)):Option (Str×(List UInt8)):=
  (Ju u2).bind fun v1=>(qe u1 v1).bind fun v2=>some (v2,v1)
noncomputable def QW (u1:(List UInt8)):Option Unit:=
  some ()
noncomputable def J9 (u1:(List UInt8)):Option Unit:=
  (QW u1).bind fun v1=>some ()
noncomputable def qz (u1:Str)(u2:(List UInt8)):Option Str:=
  (J9 u2).bind fun v1=>(qe u1 u2).bind fun v2=>some v2
noncomputable def qn (u1:Str)(u2:(List Str))(y4:Unit⊕(Str×(List UInt8)×(List UInt8))):Option ((Unit⊕(Str×(List UInt8)×(List UInt8)))⊕(Str×Bool×(List UInt8))):=
  (Sum.elim (fun (y4:Unit)=>(qw u1 [38]).bind fun v5=>(qN v5.1 u2).bind fun v6=>(ze v6.1 true []).bind fun v7=>(bif (!v5.2.2) then (zA false v7.2).bind fun v8=>some (.inr (v8,true,v6.2)) else (qw v5.2.1 [59]).bind fun v9=>(QJ v9.1).bind fun v10=>(bif (!v9.2.2) then some (.inr ([],false,v6.2)) else (bif (!v10.2) then some (.inr ([],false,v6.2)) else (ze v10.1 false v7.2).bind fun v11=>some (.inl (Sum.inr (v9.2.1,v6.2,v11.2))))))) (fun (y4:Str×(List UInt8)×(List UInt8))=>(qw y4.1 [38]).bind fun v12=>(qz v12.1 y4.2.1).bind fun v13=>(ze v13 false y4.2.2).bind fun v14=>(bif (!v12.2.2) then (zA false v14.2).bind fun v15=>some (.inr (v15,true,y4.2.1)) else (qw v12.2.1 [59]).bind fun v16=>(QJ v16.1).bind fun v17=>(bif (!v16.2.2) then some (.inr ([],false,y4.2.1)) else (bif (!v17.2) then some (.inr ([],false,y4.2.1)) else (ze v17.1 false v14.2).bind fun v18=>some (.inl (Sum.inr (v16.2.1,y4.2.1,v18.2)))))))) y4
noncomputable def zab (u1:Str)(u2:(List Str)):Option (Str×Bool):=
  ((utf_Text u1).bind fun v1=>(bif (!v1) then some true else (qD u1 [60]).bind fun v2=>some v2):Option (Bool)).bind (fun (q3:Bool)=>(bif q3 then some ([],false) else (iter (qn u1 u2) (Sum.inl ())).bind (fun (q19:Str×Bool×(List UInt8))=>some (q19.1,q19.2.1))))
noncomputable def chars_Value (s:Str):Option (Str×Bool):=
  (ZF [[9],[32],[10],[32],[13],[32]]).bind fun v1=>(zab s v1).bind fun v2=>some (v2.1,v2.2)
noncomputable def JD (s:Str)(c:UInt8):Option Int:=
  some (indexByte s c)
noncomputable def JG (s:Str)(c:UInt8):Option Int:=
  (JD s c).bind fun v1=>some v1
noncomputable def name_Trim_b1 (y1:Str):Option (Str⊕Str):=
  (bif (!(y1==[])) then (at' y1 0).bind fun v2=>(Qt v2).bind fun v3=>(bif v3 then (sub' y1 1 (y1.length:Int)).bind fun v4=>some (.inl v4) else some (.inr y1)) else some (.inr y1))
noncomputable def name_Trim_b2 (y6:Str):Option (Str⊕Str):=
  (bif (!(y6==[])) then (at' y6 (w64 ((y6.length:Int)-1))).bind fun v7=>(Qt v7).bind fun v8=>(bif v8 then (sub' y6 0 (w64 ((y6.length:Int)-1))).bind fun v9=>some (.inl v9) else some (.inr y6)) else some (.inr y6))
noncomputable def name_Trim (s:Str):Option Str:=
  (iter (name_Trim_b1) s).bind (fun (q5:Str)=>(iter (name_Trim_b2) q5).bind (fun (q10:Str)=>some q10))
noncomputable def J1 (x:Str):Option Str:=
  some x
noncomputable def QT (s:Str):Option (Str×Bool):=
  (qD s [93,93,62]).bind fun v1=>(bif v1 then some ([],false) else (chars_expand s (fun x0=>J1 x0)).bind fun v2=>some (v2.1,v2.2))
noncomputable def doc_bare (x:zd):Option Bool:=
  (bif (x.Prefix==[]) then (bif (x.URI==[]) then (bif ((x.Decls.length:Int)==0) then some ((x.Attrs.length:Int)==0) else some false) else some false) else some false)
noncomputable def ZV (l:(List zd))(n:Int)(y1:Int):Option (Int⊕(Bool⊕Unit)):=
  (bif (decide (y1≥0)) then (at' l n).bind fun v2=>(bif (y1==v2.Parent) then (at' l y1).bind fun v3=>(bif (v3.Kind==0) then some (.inr (Sum.inl true)) else (at' l y1).bind fun v4=>some (.inr (Sum.inl (v4.Kind==1)))) else (at' l y1).bind fun v5=>some (.inl v5.Parent)) else some (.inr (Sum.inr ())))
noncomputable def zaf (l:(List zd))(n:Int):Option Bool:=
  (iter (ZV l n) (w64 (n-1))).bind (Sum.elim (fun (q6:Bool)=>some q6) (fun (q7:Unit)=>some false))
noncomputable def zad (o:za)(p1:za):Option Bool:=
  some (o.Prefix==p1.Prefix)
noncomputable def qi (s:(List za))(f:(za→Option Bool))(y1:Int):Option (Int⊕(Int⊕Unit)):=
  (bif (decide (y1<(s.length:Int))) then (at' s y1).bind fun v2=>(f v2).bind fun v3=>(bif v3 then some (.inr (Sum.inl y1)) else some (.inl (w64 (y1+1)))) else some (.inr (Sum.inr ())))
noncomputable def Qv (s:(List za))(f:(za→Option Bool)):Option Int:=
  (iter (qi s f) 0).bind (Sum.elim (fun (q4:Int)=>some q4) (fun (q5:Unit)=>some (-1)))
noncomputable def Zj (s:(List za))(f:(za→Option Bool)):Option Bool:=
  (Qv s f).bind fun v1=>some (decide (v1≥0))
noncomputable def JP (s:Str):Option Bool:=
  (bif (s==[]) then some true else (Jr s).bind fun v1=>some v1)
noncomputable def Jv (s:Str):Option Bool:=
  (utf_Text s).bind fun v1=>some v1
noncomputable def Z4 (l:(List za))(y1:Int):Option (Int⊕(Unit⊕Unit)):=
  (bif (decide (y1<(l.length:Int))) then (at' l y1).bind fun v2=>(sub' l 0 y1).bind fun v3=>(Zj v3 (fun x0=>zad x0 v2)).bind fun v4=>(bif v4 then some (.inr (Sum.inl ())) else (JP v2.Prefix).bind fun v5=>(bif (!v5) then some (.inr (Sum.inl ())) else (bif (v2.Prefix==[120,109,108,110,115]) then some (.inr (Sum.inl ())) else (Jv v2.URI).bind fun v6=>(bif (!v6) then some (.inr (Sum.inl ())) else (bif (v2.URI==[]) then (bif (!(v2.Prefix==[])) then some (.inr (Sum.inl ())) else (bif (!((v2.Prefix==[120,109,108])==(v2.URI==[104,116,116,112,58,47,47,119,119,119,46,119,51,46,111,114,103,47,88,77,76,47,49,57,57,56,47,110,97,109,101,115,112,97,99,101]))) then some (.inr (Sum.inl ())) else (bif (v2.URI==[104,116,116,112,58,47,47,119,119,119,46,119,51,46,111,114,103,47,50,48,48,48,47,120,109,108,110,115,47]) then some (.inr (Sum.inl ())) else some (.inl (w64 (y1+1)))))) else (bif (!((v2.Prefix==[120,109,108])==(v2.URI==[104,116,116,112,58,47,47,119,119,119,46,119,51,46,111,114,103,47,88,77,76,47,49,57,57,56,47,110,97,109,101,115,112,97,99,101]))) then some (.inr (Sum.inl ())) else (bif (v2.URI==[104,116,116,112,58,47,47,119,119,119,46,119,51,46,111,114,103,47,50,48,48,48,47,120,109,108,110,115,47]) then some (.inr (Sum.inl ())) else some (.inl (w64 (y1+1)))))))))) else some (.inr (Sum.inr ())))
noncomputable def doc_declared (l:(List za)):Option Bool:=
  (iter (Z4 l) 0).bind (Sum.elim (fun (q7:Unit)=>some false) (fun (q8:Unit)=>some true))
noncomputable def doc_means_b2 (p:Str)(v2:zd)(y3:Int):Option (Int⊕(Str⊕Unit)):=
  (bif (decide (y3<(v2.Decls.length:Int))) then (at' v2.Decls y3).bind fun v4=>(bif (v4.Prefix==p) then some (.inr (Sum.inl v4.URI)) else some (.inl (w64 (y3+1)))) else some (.inr (Sum.inr ())))
noncomputable def doc_means_b1 (l:(List zd))(p:Str)(y1:Int):Option (Int⊕(Str⊕Unit)):=
  (bif (decide (y1>0)) then (at' l y1).bind fun v2=>(iter (doc_means_b2 p v2) 0).bind (Sum.elim (fun (q5:Str)=>some (.inr (Sum.inl q5))) (fun (q6:Unit)=>(at' l y1).bind fun v7=>some (.inl v7.Parent))) else some (.inr (Sum.inr ())))
noncomputable def doc_means (l:(List zd))(n:Int)(p:Str):Option (Str×Bool):=
  (bif (p==[120,109,108]) then some ([104,116,116,112,58,47,47,119,119,119,46,119,51,46,111,114,103,47,88,77,76,47,49,57,57,56,47,110,97,109,101,115,112,97,99,101],true) else (iter (doc_means_b1 l p) n).bind (Sum.elim (fun (q8:Str)=>some (q8,true)) (fun (q9:Unit)=>some ([],(p==[])))))
noncomputable def JV (o:z6)(p1:z6):Option Bool:=
  (bif (o.Local==p1.Local) then some (o.URI==p1.URI) else some false)
noncomputable def ql (s:(List z6))(f:(z6→Option Bool))(y1:Int):Option (Int⊕(Int⊕Unit)):=
  (bif (decide (y1<(s.length:Int))) then (at' s y1).bind fun v2=>(f v2).bind fun v3=>(bif v3 then some (.inr (Sum.inl y1)) else some (.inl (w64 (y1+1)))) else some (.inr (Sum.inr ())))
noncomputable def Qx (s:(List z6))(f:(z6→Option Bool)):Option Int:=
  (iter (ql s f) 0).bind (Sum.elim (fun (q4:Int)=>some q4) (fun (q5:Unit)=>some (-1)))
noncomputable def qJ (s:(List z6))(f:(z6→Option Bool)):Option Bool:=
  (Qx s f).bind fun v1=>some (decide (v1≥0))
noncomputable def Jj (l:(List zd))(n:Int)(v1:zd)(y6:Int):Option (Int⊕(Unit⊕Unit)):=
  (bif (decide (y6<(v1.Attrs.length:Int))) then (at' v1.Attrs y6).bind fun v7=>(doc_means l n v7.Prefix).bind fun v8=>(bif (v7.Prefix==[]) then (sub' v1.Attrs 0 y6).bind fun v9=>(qJ v9 (fun x0=>JV x0 v7)).bind fun v10=>(bif v10 then some (.inr (Sum.inl ())) else (bif (!v8.2) then some (.inr (Sum.inl ())) else (bif (!([]==v7.URI)) then some (.inr (Sum.inl ())) else (Jr v7.Local).bind fun v11=>(bif (!v11) then some (.inr (Sum.inl ())) else (JP v7.Prefix).bind fun v12=>(bif (!v12) then some (.inr (Sum.inl ())) else (bif (v7.Prefix==[120,109,108,110,115]) then some (.inr (Sum.inl ())) else (bif (v7.Prefix==[]) then (bif (v7.Local==[120,109,108,110,115]) then some (.inr (Sum.inl ())) else (Jv v7.Value).bind fun v13=>(bif (!v13) then some (.inr (Sum.inl ())) else some (.inl (w64 (y6+1))))) else (Jv v7.Value).bind fun v14=>(bif (!v14) then some (.inr (Sum.inl ())) else some (.inl (w64 (y6+1))))))))))) else (sub' v1.Attrs 0 y6).bind fun v15=>(qJ v15 (fun x0=>JV x0 v7)).bind fun v16=>(bif v16 then some (.inr (Sum.inl ())) else (bif (!v8.2) then some (.inr (Sum.inl ())) else (bif (!(v8.1==v7.URI)) then some (.inr (Sum.inl ())) else (Jr v7.Local).bind fun v17=>(bif (!v17) then some (.inr (Sum.inl ())) else (JP v7.Prefix).bind fun v18=>(bif (!v18) then some (.inr (Sum.inl ())) else (bif (v7.Prefix==[120,109,108,110,115]) then some (.inr (Sum.inl ())) else (bif (v7.Prefix==[]) then (bif (v7.Local==[120,109,108,110,115]) then some (.inr (Sum.inl ())) else (Jv v7.Value).bind fun v19=>(bif (!v19) then some (.inr (Sum.inl ())) else some (.inl (w64 (y6+1))))) else (Jv v7.Value).bind fun v20=>(bif (!v20) then some (.inr (Sum.inl ())) else some (.inl (w64 (y6+1)))))))))))) else some (.inr (Sum.inr ())))
noncomputable def doc_named (l:(List zd))(n:Int):Option Bool:=
  (at' l n).bind fun v1=>(doc_means l n v1.Prefix).bind fun v2=>((bif (!v2.2) then some true else (bif (!(v2.1==v1.URI)) then some true else (Jr v1.Local).bind fun v3=>(bif (!v3) then some true else (JP v1.Prefix).bind fun v4=>(bif (!v4) then some true else some (v1.Prefix==[120,109,108,110,115]))))):Option (Bool)).bind (fun (q5:Bool)=>(bif q5 then some false else (iter (Jj l n v1) 0).bind (Sum.elim (fun (q21:Unit)=>some false) (fun (q22:Unit)=>some true))))
noncomputable def Qy (s:Str)(suffix:Str):Option Bool:=
  (bif (decide ((s.length:Int)≥(suffix.length:Int))) then (sub' s (w64 ((s.length:Int)-(suffix.length:Int))) (s.length:Int)).bind fun v1=>some (v1==suffix) else some false)
noncomputable def QC (s:Str)(suffix:Str):Option Bool:=
  (Qy s suffix).bind fun v1=>some v1
noncomputable def zag (s:Str):Option Bool:=
  (bif ((s.length:Int)==3) then (at' s 0).bind fun v1=>(bif ((v1.toNat:Int)==120) then (at' s 1).bind fun v2=>(bif ((v2.toNat:Int)==109) then (at' s 2).bind fun v3=>(bif ((v3.toNat:Int)==108) then some true else (at' s 2).bind fun v4=>some ((v4.toNat:Int)==76)) else (at' s 1).bind fun v5=>(bif ((v5.toNat:Int)==77) then (at' s 2).bind fun v6=>(bif ((v6.toNat:Int)==108) then some true else (at' s 2).bind fun v7=>some ((v7.toNat:Int)==76)) else some false)) else (at' s 0).bind fun v8=>(bif ((v8.toNat:Int)==88) then (at' s 1).bind fun v9=>(bif ((v9.toNat:Int)==109) then (at' s 2).bind fun v10=>(bif ((v10.toNat:Int)==108) then some true else (at' s 2).bind fun v11=>some ((v11.toNat:Int)==76)) else (at' s 1).bind fun v12=>(bif ((v12.toNat:Int)==77) then (at' s 2).bind fun v13=>(bif ((v13.toNat:Int)==108) then some true else (at' s 2).bind fun v14=>some ((v14.toNat:Int)==76)) else some false)) else some false)) else some false)
noncomputable def zak (l:(List zd))(n:Int)(last:Int):Option Bool:=
  (at' l n).bind fun v1=>(bif (v1.Kind==1) then (bif (v1.Text==[]) then (doc_declared v1.Decls).bind fun v2=>(bif v2 then (doc_named l n).bind fun v3=>some v3 else some false) else some false) else (bif (v1.Kind==2) then (doc_bare v1).bind fun v4=>(bif v4 then (bif (v1.Local==[]) then (bif (!(v1.Text==[])) then (Jv v1.Text).bind fun v5=>(bif v5 then (bif (decide (last<0)) then some true else (at' l last).bind fun v6=>some (v6.Kind != 2)) else some false) else some false) else some false) else some false) else (bif (v1.Kind==3) then (doc_bare v1).bind fun v7=>(bif v7 then (bif (v1.Local==[]) then (Jv v1.Text).bind fun v8=>(bif v8 then (qD v1.Text [45,45]).bind fun v9=>(bif (!v9) then (QC v1.Text [45]).bind fun v10=>some (!v10) else some false) else some false) else some false) else some false) else (bif (v1.Kind==4) then ((bif (!(v1.Text==[])) then (at' v1.Text 0).bind fun v11=>(Qt v11).bind fun v12=>some v12 else some false):Option (Bool)).bind (fun (q13:Bool)=>(doc_bare v1).bind fun v14=>(bif v14 then (Jr v1.Local).bind fun v15=>(bif v15 then (zag v1.Local).bind fun v16=>(bif (!v16) then (Jv v1.Text).bind fun v17=>(bif v17 then (qD v1.Text [63,62]).bind fun v18=>(bif (!v18) then some (!q13) else some false) else some false) else some false) else some false) else some false)) else some false))))
noncomputable def doc_under (x:zd):Option Bool:=
  (bif (x.Parent != 0) then some true else some (x.Kind != 2))
noncomputable def QG (v8:(List Int))(y9:Int×(List Int)):Option ((Int×(List Int))⊕(List Int)):=
  (bif (decide (y9.1<(v8.length:Int))) then (at' y9.2 y9.1).bind fun v10=>(put y9.2 y9.1 (-1)).bind fun v11=>some (.inl ((w64 (y9.1+1)),v11)) else some (.inr y9.2))
noncomputable def zG (l:(List zd))(y13:Int×Int×(List Int)):Option ((Int×Int×(List Int))⊕(Unit⊕Int)):=
  (bif (decide (y13.2.1<(l.length:Int))) then ((zaf l y13.2.1).bind fun v14=>(bif (!v14) then some true else (at' l y13.2.1).bind fun v15=>(at' y13.2.2 v15.Parent).bind fun v16=>(zak l y13.2.1 v16).bind fun v17=>(bif (!v17) then some true else (at' l y13.2.1).bind fun v18=>(doc_under v18).bind fun v19=>some (!v19))):Option (Bool)).bind (fun (q20:Bool)=>(bif q20 then some (.inr (Sum.inl ())) else (at' l y13.2.1).bind fun v21=>(bif (v21.Parent==0) then (at' l y13.2.1).bind fun v22=>(bif (v22.Kind==1) then (bif (decide (y13.1>0)) then some (.inr (Sum.inl ())) else (at' l y13.2.1).bind fun v23=>(at' y13.2.2 v23.Parent).bind fun v24=>(put y13.2.2 v23.Parent y13.2.1).bind fun v25=>some (.inl (y13.2.1,(w64 (y13.2.1+1)),v25))) else (at' l y13.2.1).bind fun v26=>(at' y13.2.2 v26.Parent).bind fun v27=>(put y13.2.2 v26.Parent y13.2.1).bind fun v28=>some (.inl (y13.1,(w64 (y13.2.1+1)),v28))) else (at' l y13.2.1).bind fun v29=>(at' y13.2.2 v29.Parent).bind fun v30=>(put y13.2.2 v29.Parent y13.2.1).bind fun v31=>some (.inl (y13.1,(w64 (y13.2.1+1)),v31))))) else some (.inr (Sum.inr y13.1)))
noncomputable def JZ (l:(List zd)):Option (Int×Bool):=
  ((bif ((l.length:Int)==0) then some true else (at' l 0).bind fun v1=>(bif (v1.Kind != 0) then some true else (at' l 0).bind fun v2=>(bif (v2.Parent != (-1)) then some true else (at' l 0).bind fun v3=>(doc_bare v3).bind fun v4=>(bif (!v4) then some true else (at' l 0).bind fun v5=>(bif (!(v5.Local==[])) then some true else (at' l 0).bind fun v6=>some (!(v6.Text==[]))))))):Option (Bool)).bind (fun (q7:Bool)=>(bif q7 then some (0,false) else (mk 8 (l.length:Int) 0).bind fun v8=>(iter (QG v8) (0,v8)).bind (fun (q12:(List Int))=>(iter (zG l) (0,1,q12)).bind (Sum.elim (fun (q32:Unit)=>some (0,false)) (fun (q33:Int)=>some (q33,(decide (q33>0))))))))
noncomputable def zM (l:(List zd))(y2:Int×(List Int)):Option ((Int×(List Int))⊕(Unit⊕Unit)):=
  (bif (decide (y2.1<(l.length:Int))) then (at' l y2.1).bind fun v3=>(bif (decide (y2.1>0)) then (at' y2.2 v3.Parent).bind fun v4=>(at' y2.2 y2.1).bind fun v5=>(put y2.2 y2.1 (w64 (v4+1))).bind fun v6=>(at' v6 y2.1).bind fun v7=>(bif (decide (v7>64)) then some (.inr (Sum.inl ())) else (bif (decide ((w64 ((v3.Decls.length:Int)+(v3.Attrs.length:Int)))>64)) then some (.inr (Sum.inl ())) else some (.inl ((w64 (y2.1+1)),v6)))) else (at' y2.2 y2.1).bind fun v8=>(bif (decide (v8>64)) then some (.inr (Sum.inl ())) else (bif (decide ((w64 ((v3.Decls.length:Int)+(v3.Attrs.length:Int)))>64)) then some (.inr (Sum.inl ())) else some (.inl ((w64 (y2.1+1)),y2.2))))) else some (.inr (Sum.inr ())))
noncomputable def zae (l:(List zd)):Option Bool:=
  (bif (decide ((l.length:Int)>4000)) then some false else (mk 8 (l.length:Int) 0).bind fun v1=>(iter (zM l) (0,v1)).bind (Sum.elim (fun (q9:Unit)=>some false) (fun (q10:Unit)=>some true)))
noncomputable def Ze (s:(List za)):Option (List za):=
  (app 32 [] s).bind fun v2=>some v2
noncomputable def JE (s:(List z6)):Option (List z6):=
  (app 64 [] s).bind fun v2=>some v2
noncomputable def doc_clone (x:zd):Option (Int×Int×Str×Str×Str×Str×(List za)×(List z6)):=
  (Ze x.Decls).bind fun v1=>(JE x.Attrs).bind fun v2=>some (x.Kind,x.Parent,x.Prefix,x.Local,x.URI,x.Text,v1,v2)
noncomputable def zat (l:(List zd))(y4:Int×(List zd)):Option ((Int×(List zd))⊕(List zd)):=
  (bif (decide (y4.1<(l.length:Int))) then (at' l y4.1).bind fun v5=>(doc_clone v5).bind fun v6=>(app 128 y4.2 [(zd.mk v6.1 v6.2.1 v6.2.2.1 v6.2.2.2.1 v6.2.2.2.2.1 v6.2.2.2.2.2.1 v6.2.2.2.2.2.2.1 v6.2.2.2.2.2.2.2)]).bind fun v7=>some (.inl ((w64 (y4.1+1)),v7)) else some (.inr y4.2))
noncomputable def zan (l:(List zd))(y9:Int×(List Int)):Option ((Int×(List Int))⊕(List Int)):=
  (bif (decide (y9.1≥0)) then (at' y9.2 y9.1).bind fun v10=>(at' y9.2 y9.1).bind fun v11=>(put y9.2 y9.1 (mx v10 (w64 (y9.1+1)))).bind fun v12=>(at' l y9.1).bind fun v13=>(bif (decide (v13.Parent≥0)) then (at' v12 v13.Parent).bind fun v14=>(at' v12 y9.1).bind fun v15=>(at' v12 v13.Parent).bind fun v16=>(put v12 v13.Parent (mx v14 v15)).bind fun v17=>some (.inl ((w64 (y9.1-1)),v17)) else some (.inl ((w64 (y9.1-1)),v12))) else some (.inr y9.2))
noncomputable def doc_Of (l:(List zd)):Option ((Option ZW)×Int):=
  (JZ l).bind fun v1=>(bif (!v1.2) then some (none,2) else (zae l).bind fun v2=>(bif (!v2) then some (none,3) else (mk 8 (l.length:Int) 0).bind fun v3=>(iter (zat l) (0,[])).bind (fun (q8:(List zd))=>(iter (zan l) ((w64 ((l.length:Int)-1)),v3)).bind (fun (q18:(List Int))=>some ((some (ZW.mk q8 q18 v1.1)),0)))))
noncomputable def qc (u1:Str)(y1:Int):Option (Int⊕Int):=
  (bif (decide (y1<(u1.length:Int))) then (at' u1 y1).bind fun v2=>(Qt v2).bind fun v3=>(bif v3 then some (.inl (w64 (y1+1))) else some (.inr y1)) else some (.inr y1))
noncomputable def zD (u1:Str)(u2:Bool)(u3:Bool)(u4:(List zd))(u5:(List zu))(u6:(List UInt8)):Option (Bool×Str):=
  (iter (qc u1) 0).bind (fun (q4:Int)=>(sub' u1 q4 (u1.length:Int)).bind fun v5=>some ((decide (q4>0)),v5))
noncomputable def zz (u1:Str)(u2:Str)(u3:Bool)(u4:Bool)(u5:(List zd))(u6:(List zu))(u7:(List UInt8)):Option (Bool×Str):=
  (ZC u2 u1).bind fun v1=>(bif v1.2 then some (v1.2,v1.1) else some (v1.2,u2))
noncomputable def qC (u1:Str)(u2:Str)(u3:Bool)(u4:Bool)(u5:(List zd))(u6:(List zu))(u7:(List UInt8)):Option (Str×Bool×Str):=
  (qw u2 u1).bind fun v1=>(bif v1.2.2 then some (v1.1,v1.2.2,v1.2.1) else some (v1.1,v1.2.2,u2))
noncomputable def qH (u1:Str)(u2:Bool)(u3:Bool)(u4:(List zd))(u5:(List zu))(u6:(List UInt8)):Option (Str×Bool×Str):=
  (zD u1 u2 u3 u4 u5 u6).bind fun v1=>(zz [61] v1.2 u2 u3 u4 u5 u6).bind fun v2=>(bif (!v2.1) then some ([],false,v2.2) else (zD v2.2 u2 u3 u4 u5 u6).bind fun v3=>((bif (v3.2==[]) then some true else (sub' v3.2 0 1).bind fun v4=>(qD [39,34] v4).bind fun v5=>some (!v5)):Option (Bool)).bind (fun (q6:Bool)=>(bif q6 then some ([],false,v3.2) else (sub' v3.2 0 1).bind fun v7=>(sub' v3.2 1 (v3.2.length:Int)).bind fun v8=>(qC v7 v8 u2 u3 u4 u5 u6).bind fun v9=>some (v9.1,v9.2.1,v9.2.2))))
noncomputable def qa (u8:(List Str))(v4:Str×Bool×Str)(y5:Int):Option (Int⊕(Unit⊕Unit)):=
  (bif (decide (y5<(u8.length:Int))) then (at' u8 y5).bind fun v6=>(bif v4.2.1 then (bif (v4.1==v6) then some (.inr (Sum.inl ())) else some (.inl (w64 (y5+1)))) else some (.inl (w64 (y5+1)))) else some (.inr (Sum.inr ())))
noncomputable def Zs (u1:Str)(u2:Str)(u3:Bool)(u4:Bool)(u5:(List zd))(u6:(List zu))(u7:(List UInt8))(u8:(List Str)):Option (Bool×Str):=
  ((zD u2 u3 u4 u5 u6 u7).bind fun v1=>(bif (!v1.1) then some (true,v1.2) else (zz u1 v1.2 u3 u4 u5 u6 u7).bind fun v2=>some ((!v2.1),v2.2)):Option ((Bool×Str))).bind (fun (q3:Bool×Str)=>(bif q3.1 then some (true,u2) else (qH q3.2 u3 u4 u5 u6 u7).bind fun v4=>(iter (qa u8 v4) 0).bind (Sum.elim (fun (q7:Unit)=>some (true,v4.2.2)) (fun (q8:Unit)=>some (false,v4.2.2)))))
noncomputable def Zk (u1:Str)(u2:Bool)(u3:Bool)(u4:(List zd))(u5:(List zu))(u6:(List UInt8)):Option (Bool×Str):=
  ((zD u1 u2 u3 u4 u5 u6).bind fun v1=>(bif (!v1.1) then some (true,v1.2) else (zz [101,110,99,111,100,105,110,103] v1.2 u2 u3 u4 u5 u6).bind fun v2=>some ((!v2.1),v2.2)):Option ((Bool×Str))).bind (fun (q3:Bool×Str)=>(bif q3.1 then some (true,u1) else (qH q3.2 u2 u3 u4 u5 u6).bind fun v4=>(bif v4.2.1 then (parse_fold v4.1).bind fun v5=>some ((v5==[117,116,102,45,56]),v4.2.2) else some (false,v4.2.2))))
noncomputable def qQ (u1:Str)(u2:Bool)(u3:Bool)(u4:(List zd))(u5:(List zu))(u6:(List UInt8)):Option (Bool×Str):=
  ((bif (decide ((u1.length:Int)<6)) then some true else (sub' u1 0 5).bind fun v1=>(bif (!(v1==[60,63,120,109,108])) then some true else (at' u1 5).bind fun v2=>(Qt v2).bind fun v3=>some (!v3))):Option (Bool)).bind (fun (q4:Bool)=>(bif q4 then some (true,u1) else (sub' u1 5 (u1.length:Int)).bind fun v5=>(zD v5 u2 u3 u4 u5 u6).bind fun v6=>(Z1 v6.2 [118,101,114,115,105,111,110]).bind fun v7=>(bif (!v7) then some (false,v6.2) else (Zs [118,101,114,115,105,111,110] v5 u2 u3 u4 u5 u6 [[49,46,48]]).bind fun v8=>(bif (!v8.1) then some (false,v8.2) else (Zk v8.2 u2 u3 u4 u5 u6).bind fun v9=>(bif (!v9.1) then some (false,v9.2) else (Zs [115,116,97,110,100,97,108,111,110,101] v9.2 u2 u3 u4 u5 u6 [[121,101,115],[110,111]]).bind fun v10=>(bif (!v10.1) then some (false,v10.2) else (zD v10.2 u2 u3 u4 u5 u6).bind fun v11=>(zz [63,62] v11.2 u2 u3 u4 u5 u6).bind fun v12=>some (v12.1,v12.2)))))))
noncomputable def Qi (u1:Str)(u2:Bool)(u3:Bool)(u4:(List zd))(u5:(List zu))(u6:(List UInt8)):Option Int:=
  some (u6.length:Int)
noncomputable def qG (u1:Str)(u2:Bool)(u3:Bool)(u4:(List zd))(u5:(List zu))(u6:(List UInt8)):Option Int:=
  (bif ((u5.length:Int)==0) then some 0 else (at' u5 (w64 ((u5.length:Int)-1))).bind fun v1=>some v1.n)
noncomputable def ZJ (u1:Str)(u2:Bool)(u3:Bool)(u4:(List zd))(u5:(List zu))(u6:(List UInt8)):Option Str:=
  (unsf u6).bind fun v1=>some v1
noncomputable def ZU (u1:Str)(u2:Bool)(u3:Bool)(u4:(List zd))(u5:(List zu)):Option Unit:=
  some ()
noncomputable def qL (u1:Str)(u2:Bool)(u3:Bool)(u4:(List zd))(u5:(List zu))(u6:(List UInt8)):Option (Bool×(List zd)×(List UInt8)):=
  (Qi u1 u2 u3 u4 u5 u6).bind fun v1=>(bif (decide (v1>0)) then ((qG u1 u2 u3 u4 u5 u6).bind fun v2=>(ZJ u1 u2 u3 u4 u5 u6).bind fun v3=>(app 128 u4 [(zd.mk 2 v2 [] [] [] v3 [] [])]).bind fun v4=>some v4:Option ((List zd))).bind (fun (q5:(List zd))=>(ZU u1 u2 u3 q5 u5).bind fun v6=>some (true,q5,[])) else some (u2,u4,u6))
noncomputable def Zb (u1:Int)(u2:Int)(u3:Str)(u4:Str)(u5:Str)(u6:Str)(u7:Str)(u8:Bool)(u9:Bool)(u10:(List zd))(u11:(List zu))(u12:(List UInt8)):Option (Bool×(List zd)×(List UInt8)):=
  (qL u7 u8 u9 u10 u11 u12).bind fun v1=>(qG u7 v1.1 u9 v1.2.1 u11 v1.2.2).bind fun v2=>(app 128 v1.2.1 [(zd.mk u1 v2 u3 u4 u5 u6 [] [])]).bind fun v3=>some (v1.1,v3,v1.2.2)
noncomputable def Zm (u1:Str)(u2:Bool)(u3:Bool)(u4:(List zd))(u5:(List zu))(u6:(List UInt8)):Option Unit:=
  (bif u2 then some () else some ())
noncomputable def zP (u1:Str)(u2:Str)(u3:Bool)(u4:Bool)(u5:(List zd))(u6:(List zu))(u7:(List UInt8)):Option (Int×(List UInt8)):=
  (Zm u2 u3 u4 u5 u6 u7).bind fun v1=>(app 1 u7 u1).bind fun v2=>some ((u1.length:Int),v2)
noncomputable def zN (u1:Str)(y1:Int×Nat):Option ((Int×Nat)⊕Int):=
  (bif (decide (y1.2<u1.length)) then (bif (((dec u1 y1.2).1:Int) != 58) then (zar ((dec u1 y1.2).1:Int)).bind fun v2=>(bif (!v2) then some (.inr y1.1) else some (.inl ((w64 ((y1.2:Int)+((enc ((dec u1 y1.2).1:Int)).length:Int))),(y1.2+(dec u1 y1.2).2)))) else some (.inl ((w64 ((y1.2:Int)+((enc ((dec u1 y1.2).1:Int)).length:Int))),(y1.2+(dec u1 y1.2).2)))) else some (.inr y1.1))
noncomputable def qE (u1:Str)(u2:Bool)(u3:Bool)(u4:(List zd))(u5:(List zu))(u6:(List UInt8)):Option (Str×Str):=
  (iter (zN u1) (0,0)).bind (fun (q3:Int)=>(sub' u1 0 q3).bind fun v4=>(sub' u1 q3 (u1.length:Int)).bind fun v5=>some (v4,v5))
noncomputable def qP (u1:Str)(u2:Bool)(u3:Bool)(u4:(List zd))(u5:(List zu))(u6:(List UInt8)):Option (Bool×Str×Bool×(List zd)×(List UInt8)):=
  (qE u1 u2 u3 u4 u5 u6).bind fun v1=>(zD v1.2 u2 u3 u4 u5 u6).bind fun v2=>(qC [63,62] v2.2 u2 u3 u4 u5 u6).bind fun v3=>(bif (!v3.2.1) then some (false,v3.2.2,u2,u4,u6) else (bif (!v2.1) then (bif (!(v3.1==[])) then some (false,v3.2.2,u2,u4,u6) else (Zb 4 0 [] v1.1 [] v3.1 v3.2.2 u2 u3 u4 u5 u6).bind fun v4=>some (true,v3.2.2,v4.1,v4.2.1,v4.2.2)) else (Zb 4 0 [] v1.1 [] v3.1 v3.2.2 u2 u3 u4 u5 u6).bind fun v5=>some (true,v3.2.2,v5.1,v5.2.1,v5.2.2)))
noncomputable def ZA (u1:Str)(u2:Bool)(u3:Bool)(u4:(List zd))(u5:(List zu))(u6:(List UInt8)):Option (Bool×Str×Bool×(List zd)×(List zu)×(List UInt8)):=
  ((bif (decide ((w64 ((u5.length:Int)-1))<0)) then some (true,u1) else (qE u1 u2 u3 u4 u5 u6).bind fun v1=>(at' u5 (w64 ((u5.length:Int)-1))).bind fun v2=>some ((!(v1.1==v2.name)),v1.2)):Option ((Bool×Str))).bind (fun (q3:Bool×Str)=>(bif q3.1 then some (false,q3.2,u2,u4,u5,u6) else (zD q3.2 u2 u3 u4 u5 u6).bind fun v4=>(zz [62] v4.2 u2 u3 u4 u5 u6).bind fun v5=>(bif (!v5.1) then some (false,v5.2,u2,u4,u5,u6) else (qL v5.2 u2 u3 u4 u5 u6).bind fun v6=>(rng (u5.length:Int) 0 (w64 ((u5.length:Int)-1))).bind fun _=>(prt u5 0 ((w64 ((u5.length:Int)-1)).toNat)).bind fun v7=>some (true,v5.2,v6.1,v6.2.1,v7,v6.2.2))))
noncomputable def qU (u1:Str)(u2:Bool)(u3:Bool)(u4:(List zd))(u5:(List zu))(u6:(List UInt8))(u7:Int)(u8:Int)(u9:Str)(u10:Str)(u11:Str)(u12:Str)(u13:(List za))(u14:(List z6)):Option (Bool×Str×(List za)×(List z6)):=
  (qE u1 u2 u3 u4 u5 u6).bind fun v1=>(name_Split v1.1).bind fun v2=>(qH v1.2 u2 u3 u4 u5 u6).bind fun v3=>(chars_Value v3.1).bind fun v4=>((bif (!v2.2.2) then some true else (bif (!v3.2.1) then some true else some (!v4.2))):Option (Bool)).bind (fun (q5:Bool)=>(bif q5 then some (false,v3.2.2,u13,u14) else (bif (v2.1==[120,109,108,110,115]) then (app 32 u13 [(za.mk v2.2.1 v4.1)]).bind fun v6=>some (true,v3.2.2,v6,u14) else ((bif (v2.1==[]) then some (v2.2.1==[120,109,108,110,115]) else some false):Option (Bool)).bind (fun (q7:Bool)=>(bif q7 then (app 32 u13 [(za.mk [] v4.1)]).bind fun v8=>some (true,v3.2.2,v8,u14) else (app 64 u14 [(z6.mk v2.1 v2.2.1 [] v4.1)]).bind fun v9=>some (true,v3.2.2,u13,v9))))))
noncomputable def QP (u1:Str)(v3:zd)(y4:Int):Option (Int⊕(Str⊕Unit)):=
  (bif (decide (y4<(v3.Decls.length:Int))) then (at' v3.Decls y4).bind fun v5=>(bif (v5.Prefix==u1) then some (.inr (Sum.inl v5.URI)) else some (.inl (w64 (y4+1)))) else some (.inr (Sum.inr ())))
noncomputable def qj (u1:Str)(u8:(List za))(y8:Int):Option (Int⊕(Str⊕Unit)):=
  (bif (decide (y8<(u8.length:Int))) then (at' u8 y8).bind fun v9=>(bif (v9.Prefix==u1) then some (.inr (Sum.inl v9.URI)) else some (.inl (w64 (y8+1)))) else some (.inr (Sum.inr ())))
noncomputable def qk (u1:Str)(u5:(List zd))(u6:(List zu))(u8:(List za))(y1:Int):Option (Int⊕(Str⊕Unit)):=
  (bif (decide (y1≥0)) then (bif (decide (y1<(u6.length:Int))) then (at' u6 y1).bind fun v2=>(at' u5 v2.n).bind fun v3=>(iter (QP u1 v3) 0).bind (Sum.elim (fun (q6:Str)=>some (.inr (Sum.inl q6))) (fun (q7:Unit)=>some (.inl (w64 (y1-1))))) else (iter (qj u1 u8) 0).bind (Sum.elim (fun (q10:Str)=>some (.inr (Sum.inl q10))) (fun (q11:Unit)=>some (.inl (w64 (y1-1)))))) else some (.inr (Sum.inr ())))
noncomputable def Zg (u1:Str)(u2:Str)(u3:Bool)(u4:Bool)(u5:(List zd))(u6:(List zu))(u7:(List UInt8))(u8:(List za)):Option Str:=
  (bif (u1==[120,109,108]) then some [104,116,116,112,58,47,47,119,119,119,46,119,51,46,111,114,103,47,88,77,76,47,49,57,57,56,47,110,97,109,101,115,112,97,99,101] else (iter (qk u1 u5 u6 u8) (u6.length:Int)).bind (Sum.elim (fun (q12:Str)=>some q12) (fun (q13:Unit)=>some [])))
noncomputable def Qd (u1:Int)(u2:Int)(u3:Str)(u4:Str)(u5:Str)(u6:Str)(u7:Str)(u8:Bool)(u9:Bool)(u10:(List zd))(u11:(List zu))(u12:(List UInt8))(u13:(List za))(u14:(List z6)):Option (Bool×(List zd)×(List UInt8)):=
  (qL u7 u8 u9 u10 u11 u12).bind fun v1=>(qG u7 v1.1 u9 v1.2.1 u11 v1.2.2).bind fun v2=>(app 128 v1.2.1 [(zd.mk u1 v2 u3 u4 u5 u6 u13 u14)]).bind fun v3=>some (v1.1,v3,v1.2.2)
noncomputable def qy (u9:Str)(u10:Bool)(u11:Bool)(u12:(List zd))(u13:(List zu))(u14:(List UInt8))(u15:(List za))(u16:(List z6))(y2:Int×(List z6)):Option ((Int×(List z6))⊕(List z6)):=
  (bif (decide (y2.1<(u16.length:Int))) then (at' y2.2 y2.1).bind fun v3=>(bif (!(v3.Prefix==[])) then (Zg v3.Prefix u9 u10 u11 u12 u13 u14 u15).bind fun v4=>(at' y2.2 y2.1).bind fun v5=>(put y2.2 y2.1 (z6.mk v5.Prefix v5.Local v4 v5.Value)).bind fun v6=>some (.inl ((w64 (y2.1+1)),v6)) else some (.inl ((w64 (y2.1+1)),y2.2))) else some (.inr y2.2))
noncomputable def qB (u1:Int)(u2:Int)(u3:Str)(u4:Str)(u5:Str)(u6:Str)(u7:Str)(u8:Bool)(u9:Str)(u10:Bool)(u11:Bool)(u12:(List zd))(u13:(List zu))(u14:(List UInt8))(u15:(List za))(u16:(List z6)):Option (Bool×(List zd)×(List zu)×(List UInt8)):=
  (Zg u3 u9 u10 u11 u12 u13 u14 u15).bind fun v1=>(iter (qy u9 u10 u11 u12 u13 u14 u15 u16) (0,u16)).bind (fun (q7:(List z6))=>(Qd u1 u2 u3 u4 v1 u6 u9 u10 u11 u12 u13 u14 u15 q7).bind fun v8=>(bif (!u8) then (app 24 u13 [(zu.mk (w64 ((v8.2.1.length:Int)-1)) u7)]).bind fun v9=>some (v8.1,v8.2.1,v9,v8.2.2) else some (v8.1,v8.2.1,u13,v8.2.2)))
noncomputable def qm (u2:Bool)(u3:Bool)(u4:(List zd))(u5:(List zu))(u6:(List UInt8))(v1:Str×Str)(v2:Str×Str×Bool)(y3:Str×(List za)×(List z6)):Option ((Str×(List za)×(List z6))⊕(Bool×Str×Bool×(List zd)×(List zu)×(List UInt8))):=
  (zD y3.1 u2 u3 u4 u5 u6).bind fun v4=>(zz [62] v4.2 u2 u3 u4 u5 u6).bind fun v5=>(bif (!v5.1) then (zz [47,62] v5.2 u2 u3 u4 u5 u6).bind fun v6=>(bif v5.1 then (qB 1 0 v2.1 v2.2.1 [] [] v1.1 v6.1 v6.2 u2 u3 u4 u5 u6 y3.2.1 y3.2.2).bind fun v7=>some (.inr (true,v6.2,v7.1,v7.2.1,v7.2.2.1,v7.2.2.2)) else (bif v6.1 then (qB 1 0 v2.1 v2.2.1 [] [] v1.1 v6.1 v6.2 u2 u3 u4 u5 u6 y3.2.1 y3.2.2).bind fun v8=>some (.inr (true,v6.2,v8.1,v8.2.1,v8.2.2.1,v8.2.2.2)) else (bif (!v4.1) then some (.inr (false,v6.2,u2,u4,u5,u6)) else (qU v6.2 u2 u3 u4 u5 u6 1 0 v2.1 v2.2.1 [] [] y3.2.1 y3.2.2).bind fun v9=>(bif (!v9.1) then some (.inr (false,v9.2.1,u2,u4,u5,u6)) else some (.inl (v9.2.1,v9.2.2.1,v9.2.2.2)))))) else (bif v5.1 then (qB 1 0 v2.1 v2.2.1 [] [] v1.1 false v5.2 u2 u3 u4 u5 u6 y3.2.1 y3.2.2).bind fun v10=>some (.inr (true,v5.2,v10.1,v10.2.1,v10.2.2.1,v10.2.2.2)) else (bif (!v4.1) then some (.inr (false,v5.2,u2,u4,u5,u6)) else (qU v5.2 u2 u3 u4 u5 u6 1 0 v2.1 v2.2.1 [] [] y3.2.1 y3.2.2).bind fun v11=>(bif (!v11.1) then some (.inr (false,v11.2.1,u2,u4,u5,u6)) else some (.inl (v11.2.1,v11.2.2.1,v11.2.2.2))))))
noncomputable def ZL (u1:Str)(u2:Bool)(u3:Bool)(u4:(List zd))(u5:(List zu))(u6:(List UInt8)):Option (Bool×Str×Bool×(List zd)×(List zu)×(List UInt8)):=
  (qE u1 u2 u3 u4 u5 u6).bind fun v1=>(name_Split v1.1).bind fun v2=>(bif (!v2.2.2) then some (false,v1.2,u2,u4,u5,u6) else (iter (qm u2 u3 u4 u5 u6 v1 v2) (v1.2,[],[])).bind (fun (q12:Bool×Str×Bool×(List zd)×(List zu)×(List UInt8))=>some (q12.1,q12.2.1,q12.2.2.1,q12.2.2.2.1,q12.2.2.2.2.1,q12.2.2.2.2.2)))
noncomputable def Zv (u1:Str)(u2:Bool)(u3:Bool)(u4:(List zd))(u5:(List zu))(u6:(List UInt8)):Option (Bool×Str×Bool×(List UInt8)):=
  (JG u1 60).bind fun v1=>(bif (decide (v1<0)) then (sub' u1 0 (u1.length:Int)).bind fun v2=>(sub' u1 (u1.length:Int) (u1.length:Int)).bind fun v3=>(bif ((u5.length:Int)==0) then (name_Trim v2).bind fun v4=>some ((v4==[]),v3,u2,u6) else (QT v2).bind fun v5=>(zP v5.1 v3 u2 u3 u4 u5 u6).bind fun v6=>some (v5.2,v3,false,v6.2)) else (sub' u1 0 v1).bind fun v7=>(sub' u1 v1 (u1.length:Int)).bind fun v8=>(bif ((u5.length:Int)==0) then (name_Trim v7).bind fun v9=>some ((v9==[]),v8,u2,u6) else (QT v7).bind fun v10=>(zP v10.1 v8 u2 u3 u4 u5 u6).bind fun v11=>some (v10.2,v8,false,v11.2)))
noncomputable def ZX (u1:Str)(u2:Bool)(u3:Bool)(u4:(List zd))(u5:(List zu))(u6:(List UInt8)):Option (Bool×Str×Bool×(List zd)×(List zu)×(List UInt8)):=
  (zz [60,33,45,45] u1 u2 u3 u4 u5 u6).bind fun v1=>(bif v1.1 then (qC [45,45,62] v1.2 u2 u3 u4 u5 u6).bind fun v2=>(Zb 3 0 [] [] [] v2.1 v2.2.2 u2 u3 u4 u5 u6).bind fun v3=>some (v2.2.1,v2.2.2,v3.1,v3.2.1,u5,v3.2.2) else ((bif (decide ((u5.length:Int)>0)) then (zz [60,33,91,67,68,65,84,65,91] v1.2 u2 u3 u4 u5 u6).bind fun v4=>some (v4.1,v4.2) else some (false,v1.2)):Option ((Bool×Str))).bind (fun (q5:Bool×Str)=>(bif q5.1 then (qC [93,93,62] q5.2 u2 u3 u4 u5 u6).bind fun v6=>(zP v6.1 v6.2.2 u2 u3 u4 u5 u6).bind fun v7=>some (v6.2.1,v6.2.2,false,u4,u5,v7.2) else (zz [60,63] q5.2 u2 u3 u4 u5 u6).bind fun v8=>(bif v8.1 then (qP v8.2 u2 u3 u4 u5 u6).bind fun v9=>some (v9.1,v9.2.1,v9.2.2.1,v9.2.2.2.1,u5,v9.2.2.2.2) else (zz [60,47] v8.2 u2 u3 u4 u5 u6).bind fun v10=>(bif v10.1 then (ZA v10.2 u2 u3 u4 u5 u6).bind fun v11=>some (v11.1,v11.2.1,v11.2.2.1,v11.2.2.2.1,v11.2.2.2.2.1,v11.2.2.2.2.2) else (zz [60] v10.2 u2 u3 u4 u5 u6).bind fun v12=>(bif v12.1 then (ZL v12.2 u2 u3 u4 u5 u6).bind fun v13=>some (v13.1,v13.2.1,v13.2.2.1,v13.2.2.2.1,v13.2.2.2.2.1,v13.2.2.2.2.2) else (Zv v12.2 u2 u3 u4 u5 u6).bind fun v14=>some (v14.1,v14.2.1,v14.2.2.1,u4,u5,v14.2.2.2)))))))
noncomputable def JO (y4:Str×Bool×(List zd)×(List zu)×(List UInt8)):Option ((Str×Bool×(List zd)×(List zu)×(List UInt8))⊕(Unit⊕(Str×Bool×(List zd)×(List zu)×(List UInt8)))):=
  (bif (!(y4.1==[])) then (ZX y4.1 y4.2.1 false y4.2.2.1 y4.2.2.2.1 y4.2.2.2.2).bind fun v5=>(bif (!v5.1) then some (.inr (Sum.inl ())) else some (.inl (v5.2.1,v5.2.2.1,v5.2.2.2.1,v5.2.2.2.2.1,v5.2.2.2.2.2))) else some (.inr (Sum.inr (y4.1,y4.2.1,y4.2.2.1,y4.2.2.2.1,y4.2.2.2.2))))
noncomputable def Jc (b:(List UInt8)):Option ((Option ZW)×Int):=
  (bif (decide ((b.length:Int)>65536)) then some (none,3) else (utf_Text b).bind fun v1=>(bif (!v1) then some (none,2) else (chars_Lines b).bind fun v2=>(qQ v2 true false [(zd.mk 0 (-1) [] [] [] [] [] [])] [] []).bind fun v3=>(bif (!v3.1) then some (none,2) else (iter (JO) (v3.2,true,[(zd.mk 0 (-1) [] [] [] [] [] [])],[],[])).bind (Sum.elim (fun (q6:Unit)=>some (none,2)) (fun (q7:Str×Bool×(List zd)×(List zu)×(List UInt8))=>(bif (decide ((q7.2.2.2.1.length:Int)>0)) then some (none,2) else (doc_Of q7.2.2.1).bind fun v8=>some (v8.1,v8.2)))))))
noncomputable def doc_Doc_Len (d:(Option ZW)):Option Int:=
  (bif d.isNone then some 0 else (d).bind fun v1=>some (v1.l.length:Int))
noncomputable def Ja (d:(Option ZW))(n:Int):Option Bool:=
  (bif (decide (n≥0)) then (doc_Doc_Len d).bind fun v1=>some (decide (n<v1)) else some false)
noncomputable def Zp (d:(Option ZW))(n:Int):Option zd:=
  (Ja d n).bind fun v1=>(bif (!v1) then some (zd.mk 0 0 [] [] [] [] [] []) else (d).bind fun v2=>(at' v2.l n).bind fun v3=>(doc_clone v3).bind fun v4=>some (zd.mk v4.1 v4.2.1 v4.2.2.1 v4.2.2.2.1 v4.2.2.2.2.1 v4.2.2.2.2.2.1 v4.2.2.2.2.2.2.1 v4.2.2.2.2.2.2.2))
noncomputable def QN (d:(Option ZW))(y4:Int×(List Int)):Option ((Int×(List Int))⊕(List Int)):=
  (bif (decide (y4.1≥0)) then (app 8 y4.2 [y4.1]).bind fun v5=>(d).bind fun v6=>(at' v6.l y4.1).bind fun v7=>some (.inl (v7.Parent,v5)) else some (.inr y4.2))
noncomputable def zai (d:(Option ZW))(n:Int):Option (List Int):=
  (Ja d n).bind fun v1=>(bif (!v1) then some [] else (d).bind fun v2=>(at' v2.l n).bind fun v3=>(iter (QN d) (v3.Parent,[])).bind (fun (q8:(List Int))=>some q8))
noncomputable def QH (s:(List Int))(i:Int)(v_:(List Int)):Option (List Int):=
  ins 8 s i v_
noncomputable def zF (a:Int)(cmp:(za→za→Option Int))(y2:Int×(List za)):Option ((Int×(List za))⊕(List za)):=
  ((bif (decide (y2.1>a)) then (at' y2.2 y2.1).bind fun v3=>(at' y2.2 (w64 (y2.1-1))).bind fun v4=>(cmp v3 v4).bind fun v5=>some (decide (v5<0)) else some false):Option (Bool)).bind (fun (q6:Bool)=>(bif q6 then (at' y2.2 (w64 (y2.1-1))).bind fun v7=>(at' y2.2 y2.1).bind fun v8=>(at' y2.2 y2.1).bind fun v9=>(put y2.2 y2.1 v7).bind fun v10=>(at' v10 (w64 (y2.1-1))).bind fun v11=>(put v10 (w64 (y2.1-1)) v8).bind fun v12=>some (.inl ((w64 (y2.1-1)),v12)) else some (.inr y2.2)))
noncomputable def zE (a:Int)(b:Int)(cmp:(za→za→Option Int))(y1:Int×(List za)):Option ((Int×(List za))⊕(List za)):=
  (bif (decide (y1.1<b)) then (iter (zF a cmp) (y1.1,y1.2)).bind (fun (q13:(List za))=>some (.inl ((w64 (y1.1+1)),q13))) else some (.inr y1.2))
noncomputable def zw (data:(List za))(a:Int)(b:Int)(cmp:(za→za→Option Int)):Option (List za):=
  (iter (zE a b cmp) ((w64 (a+1)),data)).bind (fun (q14:(List za))=>some q14)
noncomputable def qA (a:Int)(b:Int)(n:Int)(y1:Int×(List za)):Option ((Int×(List za))⊕(List za)):=
  (bif (decide (y1.1<n)) then (at' y1.2 (w64 (b+y1.1))).bind fun v2=>(at' y1.2 (w64 (a+y1.1))).bind fun v3=>(at' y1.2 (w64 (a+y1.1))).bind fun v4=>(put y1.2 (w64 (a+y1.1)) v2).bind fun v5=>(at' v5 (w64 (b+y1.1))).bind fun v6=>(put v5 (w64 (b+y1.1)) v3).bind fun v7=>some (.inl ((w64 (y1.1+1)),v7)) else some (.inr y1.2))
noncomputable def zR (data:(List za))(a:Int)(b:Int)(n:Int)(cmp:(za→za→Option Int)):Option (List za):=
  (iter (qA a b n) (0,data)).bind (fun (q8:(List za))=>some q8)
noncomputable def qv (m:Int)(cmp:(za→za→Option Int))(y1:Int×Int×(List za)):Option ((Int×Int×(List za))⊕(Int×(List za))):=
  (bif (y1.1 != y1.2.1) then (bif (decide (y1.1>y1.2.1)) then (zR y1.2.2 (w64 (m-y1.1)) m y1.2.1 cmp).bind fun v2=>(eqn v2.length y1.2.2.length).bind fun _=>some (.inl ((w64 (y1.1-y1.2.1)),y1.2.1,v2)) else (zR y1.2.2 (w64 (m-y1.1)) (w64 ((w64 (m+y1.2.1))-y1.1)) y1.1 cmp).bind fun v4=>(eqn v4.length y1.2.2.length).bind fun _=>some (.inl (y1.1,(w64 (y1.2.1-y1.1)),v4))) else some (.inr (y1.1,y1.2.2)))
noncomputable def qs (data:(List za))(a:Int)(m:Int)(b:Int)(cmp:(za→za→Option Int)):Option (List za):=
  (iter (qv m cmp) ((w64 (m-a)),(w64 (b-m)),data)).bind (fun (q6:Int×(List za))=>(zR q6.2 (w64 (m-q6.1)) m q6.1 cmp).bind fun v7=>(eqn v7.length q6.2.length).bind fun _=>some v7)
noncomputable def zW (data:(List za))(a:Int)(cmp:(za→za→Option Int))(y1:Int×Int):Option ((Int×Int)⊕Int):=
  (bif (decide (y1.1<y1.2)) then (at' data (w64 ((v64 (w64 (y1.1+y1.2))).fdiv (2^1)))).bind fun v2=>(at' data a).bind fun v3=>(cmp v2 v3).bind fun v4=>(bif (decide (v4<0)) then some (.inl ((w64 ((w64 ((v64 (w64 (y1.1+y1.2))).fdiv (2^1)))+1)),y1.2)) else some (.inl (y1.1,(w64 ((v64 (w64 (y1.1+y1.2))).fdiv (2^1)))))) else some (.inr y1.1))
noncomputable def zZ (q5:Int)(y6:Int×(List za)):Option ((Int×(List za))⊕(List za)):=
  (bif (decide (y6.1<(w64 (q5-1)))) then (at' y6.2 (w64 (y6.1+1))).bind fun v7=>(at' y6.2 y6.1).bind fun v8=>(at' y6.2 y6.1).bind fun v9=>(put y6.2 y6.1 v7).bind fun v10=>(at' v10 (w64 (y6.1+1))).bind fun v11=>(put v10 (w64 (y6.1+1)) v8).bind fun v12=>some (.inl ((w64 (y6.1+1)),v12)) else some (.inr y6.2))
noncomputable def zX (data:(List za))(m:Int)(cmp:(za→za→Option Int))(y14:Int×Int):Option ((Int×Int)⊕Int):=
  (bif (decide (y14.1<y14.2)) then (at' data m).bind fun v15=>(at' data (w64 ((v64 (w64 (y14.1+y14.2))).fdiv (2^1)))).bind fun v16=>(cmp v15 v16).bind fun v17=>(bif (!(decide (v17<0))) then some (.inl ((w64 ((w64 ((v64 (w64 (y14.1+y14.2))).fdiv (2^1)))+1)),y14.2)) else some (.inl (y14.1,(w64 ((v64 (w64 (y14.1+y14.2))).fdiv (2^1)))))) else some (.inr y14.1))
noncomputable def zY (q18:Int)(y19:Int×(List za)):Option ((Int×(List za))⊕(List za)):=
  (bif (decide (y19.1>q18)) then (at' y19.2 (w64 (y19.1-1))).bind fun v20=>(at' y19.2 y19.1).bind fun v21=>(at' y19.2 y19.1).bind fun v22=>(put y19.2 y19.1 v20).bind fun v23=>(at' v23 (w64 (y19.1-1))).bind fun v24=>(put v23 (w64 (y19.1-1)) v21).bind fun v25=>some (.inl ((w64 (y19.1-1)),v25)) else some (.inr y19.2))
noncomputable def zO (data:(List za))(a:Int)(m:Int)(b:Int)(cmp:(za→za→Option Int))(y27:Int×Int):Option ((Int×Int)⊕(Int×Int×Int)):=
  (bif (decide (y27.1<y27.2)) then (at' data (w64 ((w64 ((w64 ((w64 ((v64 (w64 (a+b))).fdiv (2^1)))+m))-1))-(w64 ((v64 (w64 (y27.1+y27.2))).fdiv (2^1)))))).bind fun v28=>(at' data (w64 ((v64 (w64 (y27.1+y27.2))).fdiv (2^1)))).bind fun v29=>(cmp v28 v29).bind fun v30=>(bif (!(decide (v30<0))) then some (.inl ((w64 ((w64 ((v64 (w64 (y27.1+y27.2))).fdiv (2^1)))+1)),y27.2)) else some (.inl (y27.1,(w64 ((v64 (w64 (y27.1+y27.2))).fdiv (2^1)))))) else some (.inr ((w64 ((v64 (w64 (a+b))).fdiv (2^1))),(w64 ((w64 ((v64 (w64 (a+b))).fdiv (2^1)))+m)),y27.1)))
noncomputable def qZ (data:(List za))(a:Int)(m:Int)(b:Int)(cmp:(za→za→Option Int))(y49:Int×Int):Option ((Int×Int)⊕(Int×Int×Int)):=
  (bif (decide (y49.1<y49.2)) then (at' data (w64 ((w64 ((w64 ((w64 ((v64 (w64 (a+b))).fdiv (2^1)))+m))-1))-(w64 ((v64 (w64 (y49.1+y49.2))).fdiv (2^1)))))).bind fun v50=>(at' data (w64 ((v64 (w64 (y49.1+y49.2))).fdiv (2^1)))).bind fun v51=>(cmp v50 v51).bind fun v52=>(bif (!(decide (v52<0))) then some (.inl ((w64 ((w64 ((v64 (w64 (y49.1+y49.2))).fdiv (2^1)))+1)),y49.2)) else some (.inl (y49.1,(w64 ((v64 (w64 (y49.1+y49.2))).fdiv (2^1)))))) else some (.inr ((w64 ((v64 (w64 (a+b))).fdiv (2^1))),(w64 ((w64 ((v64 (w64 (a+b))).fdiv (2^1)))+m)),y49.1)))
noncomputable def z7 (frec:((List za)→Int→Int→Int→(za→za→Option Int)→Option (List za)))(data:(List za))(a:Int)(m:Int)(b:Int)(cmp:(za→za→Option Int)):Option (List za):=
  (bif ((w64 (m-a))==1) then (iter (zW data a cmp) (m,b)).bind (fun (q5:Int)=>(iter (zZ q5) (a,data)).bind (fun (q13:(List za))=>some q13)) else (bif ((w64 (b-m))==1) then (iter (zX data m cmp) (a,m)).bind (fun (q18:Int)=>(iter (zY q18) (m,data)).bind (fun (q26:(List za))=>some q26)) else (bif (decide (m>(w64 ((v64 (w64 (a+b))).fdiv (2^1))))) then (iter (zO data a m b cmp) ((w64 ((w64 ((w64 ((v64 (w64 (a+b))).fdiv (2^1)))+m))-b)),(w64 ((v64 (w64 (a+b))).fdiv (2^1))))).bind (fun (q31:Int×Int×Int)=>((bif (decide (q31.2.2<m)) then some (decide (m<(w64 (q31.2.1-q31.2.2)))) else some false):Option (Bool)).bind (fun (q32:Bool)=>(bif q32 then (qs data q31.2.2 m (w64 (q31.2.1-q31.2.2)) cmp).bind fun v33=>(eqn v33.length data.length).bind fun _=>((bif (decide (a<q31.2.2)) then some (decide (q31.2.2<q31.1)) else some false):Option (Bool)).bind (fun (q34:Bool)=>(bif q34 then (frec v33 a q31.2.2 q31.1 cmp).bind fun v35=>(eqn v35.length v33.length).bind fun _=>(bif (decide (q31.1<(w64 (q31.2.1-q31.2.2)))) then (bif (decide ((w64 (q31.2.1-q31.2.2))<b)) then (frec v35 q31.1 (w64 (q31.2.1-q31.2.2)) b cmp).bind fun v36=>(eqn v36.length v35.length).bind fun _=>some v36 else some v35) else some v35) else (bif (decide (q31.1<(w64 (q31.2.1-q31.2.2)))) then (bif (decide ((w64 (q31.2.1-q31.2.2))<b)) then (frec v33 q31.1 (w64 (q31.2.1-q31.2.2)) b cmp).bind fun v39=>(eqn v39.length v33.length).bind fun _=>some v39 else some v33) else some v33))) else ((bif (decide (a<q31.2.2)) then some (decide (q31.2.2<q31.1)) else some false):Option (Bool)).bind (fun (q42:Bool)=>(bif q42 then (frec data a q31.2.2 q31.1 cmp).bind fun v43=>(eqn v43.length data.length).bind fun _=>(bif (decide (q31.1<(w64 (q31.2.1-q31.2.2)))) then (bif (decide ((w64 (q31.2.1-q31.2.2))<b)) then (frec v43 q31.1 (w64 (q31.2.1-q31.2.2)) b cmp).bind fun v44=>(eqn v44.length v43.length).bind fun _=>some v44 else some v43) else some v43) else (bif (decide (q31.1<(w64 (q31.2.1-q31.2.2)))) then (bif (decide ((w64 (q31.2.1-q31.2.2))<b)) then (frec data q31.1 (w64 (q31.2.1-q31.2.2)) b cmp).bind fun v47=>(eqn v47.length data.length).bind fun _=>some v47 else some data) else some data)))))) else (iter (qZ data a m b cmp) (a,m)).bind (fun (q53:Int×Int×Int)=>((bif (decide (q53.2.2<m)) then some (decide (m<(w64 (q53.2.1-q53.2.2)))) else some false):Option (Bool)).bind (fun (q54:Bool)=>(bif q54 then (qs data q53.2.2 m (w64 (q53.2.1-q53.2.2)) cmp).bind fun v55=>(eqn v55.length data.length).bind fun _=>((bif (decide (a<q53.2.2)) then some (decide (q53.2.2<q53.1)) else some false):Option (Bool)).bind (fun (q56:Bool)=>(bif q56 then (frec v55 a q53.2.2 q53.1 cmp).bind fun v57=>(eqn v57.length v55.length).bind fun _=>(bif (decide (q53.1<(w64 (q53.2.1-q53.2.2)))) then (bif (decide ((w64 (q53.2.1-q53.2.2))<b)) then (frec v57 q53.1 (w64 (q53.2.1-q53.2.2)) b cmp).bind fun v58=>(eqn v58.length v57.length).bind fun _=>some v58 else some v57) else some v57) else (bif (decide (q53.1<(w64 (q53.2.1-q53.2.2)))) then (bif (decide ((w64 (q53.2.1-q53.2.2))<b)) then (frec v55 q53.1 (w64 (q53.2.1-q53.2.2)) b cmp).bind fun v61=>(eqn v61.length v55.length).bind fun _=>some v61 else some v55) else some v55))) else ((bif (decide (a<q53.2.2)) then some (decide (q53.2.2<q53.1)) else some false):Option (Bool)).bind (fun (q64:Bool)=>(bif q64 then (frec data a q53.2.2 q53.1 cmp).bind fun v65=>(eqn v65.length data.length).bind fun _=>(bif (decide (q53.1<(w64 (q53.2.1-q53.2.2)))) then (bif (decide ((w64 (q53.2.1-q53.2.2))<b)) then (frec v65 q53.1 (w64 (q53.2.1-q53.2.2)) b cmp).bind fun v66=>(eqn v66.length v65.length).bind fun _=>some v66 else some v65) else some v65) else (bif (decide (q53.1<(w64 (q53.2.1-q53.2.2)))) then (bif (decide ((w64 (q53.2.1-q53.2.2))<b)) then (frec data q53.1 (w64 (q53.2.1-q53.2.2)) b cmp).bind fun v69=>(eqn v69.length data.length).bind fun _=>some v69 else some data) else some data)))))))))
noncomputable def zx:Nat→((List za)→Int→Int→Int→(za→za→Option Int)→Option (List za))
  |0=>fun _ _ _ _ _=>none
  |fuel+1=>z7 (zx fuel)
noncomputable def qg (data:(List za))(a:Int)(m:Int)(b:Int)(cmp:(za→za→Option Int)):Option (List za):=lim fun fuel=>zx fuel data a m b cmp
noncomputable def zB (n:Int)(cmp:(za→za→Option Int))(y1:Int×Int×(List za)):Option ((Int×Int×(List za))⊕(Int×(List za))):=
  (bif (decide (y1.2.1≤n)) then (zw y1.2.2 y1.1 y1.2.1 cmp).bind fun v2=>(eqn v2.length y1.2.2.length).bind fun _=>some (.inl (y1.2.1,(w64 (y1.2.1+20)),v2)) else some (.inr (y1.1,y1.2.2)))
noncomputable def zK (n:Int)(cmp:(za→za→Option Int))(y6:Int×(List za))(y7:Int×Int×(List za)):Option ((Int×Int×(List za))⊕(Int×(List za))):=
  (bif (decide (y7.2.1≤n)) then (qg y7.2.2 y7.1 (w64 (y7.1+y6.1)) y7.2.1 cmp).bind fun v8=>(eqn v8.length y7.2.2.length).bind fun _=>some (.inl (y7.2.1,(w64 (y7.2.1+(w64 (2*y6.1)))),v8)) else some (.inr (y7.1,y7.2.2)))
noncomputable def zJ (n:Int)(cmp:(za→za→Option Int))(y6:Int×(List za)):Option ((Int×(List za))⊕(List za)):=
  (bif (decide (y6.1<n)) then (iter (zK n cmp y6) (0,(w64 (2*y6.1)),y6.2)).bind (fun (q10:Int×(List za))=>(bif (decide ((w64 (q10.1+y6.1))<n)) then (qg q10.2 q10.1 (w64 (q10.1+y6.1)) n cmp).bind fun v11=>(eqn v11.length q10.2.length).bind fun _=>some (.inl ((w64 (y6.1*2)),v11)) else some (.inl ((w64 (y6.1*2)),q10.2)))) else some (.inr y6.2))
noncomputable def qt (data:(List za))(n:Int)(cmp:(za→za→Option Int)):Option (List za):=
  (iter (zB n cmp) (0,20,data)).bind (fun (q4:Int×(List za))=>(zw q4.2 q4.1 n cmp).bind fun v5=>(eqn v5.length q4.2.length).bind fun _=>(iter (zJ n cmp) (20,v5)).bind (fun (q13:(List za))=>some q13))
noncomputable def qo (x:(List za))(cmp:(za→za→Option Int)):Option (List za):=
  (qt x (x.length:Int) cmp).bind fun v1=>(eqn v1.length x.length).bind fun _=>some v1
noncomputable def Q8 (x:Str):Option Bool:=
  some (!(x==x))
noncomputable def qT (x:Str)(y_:Str):Option Int:=
  (Q8 x).bind fun v1=>(Q8 y_).bind fun v2=>(bif v1 then (bif v2 then some 0 else some (-1)) else (bif v2 then some 1 else (bif (lt x y_) then some (-1) else (bif (!(lt x y_||x==y_)) then some 1 else some 0))))
noncomputable def cmp_Or_int_b1 (vals:(List Int))(y1:Int):Option (Int⊕(Int⊕Unit)):=
  (bif (decide (y1<(vals.length:Int))) then (at' vals y1).bind fun v2=>(bif (v2 != 0) then some (.inr (Sum.inl v2)) else some (.inl (w64 (y1+1)))) else some (.inr (Sum.inr ())))
noncomputable def zah (vals:(List Int)):Option Int:=
  (iter (cmp_Or_int_b1 vals) 0).bind (Sum.elim (fun (q3:Int)=>some q3) (fun (q4:Unit)=>some 0))
noncomputable def Qa (a:za)(b:za):Option Int:=
  (qT a.Prefix b.Prefix).bind fun v1=>(qT a.URI b.URI).bind fun v2=>(zah [v1,v2]).bind fun v3=>some v3
noncomputable def QE (l:(List za)):Option (List za):=
  (Ze l).bind fun v1=>(qo v1 (fun x0 x1=>Qa x0 x1)).bind fun v2=>(eqn v2.length v1.length).bind fun _=>some v2
noncomputable def ZZ (v6:zd)(y7:Int×(List (Str×Bool))×(List za)):Option ((Int×(List (Str×Bool))×(List za))⊕((List (Str×Bool))×(List za))):=
  (bif (decide (y7.1<(v6.Decls.length:Int))) then (at' v6.Decls y7.1).bind fun v8=>(bif (!((mget y7.2.1 v8.Prefix).getD false)) then (bif (!(v8.URI==[])) then (app 32 y7.2.2 [v8]).bind fun v9=>some (.inl ((w64 (y7.1+1)),(mput y7.2.1 v8.Prefix true),v9)) else some (.inl ((w64 (y7.1+1)),(mput y7.2.1 v8.Prefix true),y7.2.2))) else some (.inl ((w64 (y7.1+1)),(mput y7.2.1 v8.Prefix true),y7.2.2))) else some (.inr (y7.2.1,y7.2.2)))
noncomputable def ZD (d:(Option ZW))(v3:(List Int))(y4:Int×(List (Str×Bool))×(List za)):Option ((Int×(List (Str×Bool))×(List za))⊕(List za)):=
  (bif (decide (y4.1<(v3.length:Int))) then (at' v3 y4.1).bind fun v5=>(Zp d v5).bind fun v6=>(iter (ZZ v6) (0,y4.2.1,y4.2.2)).bind (fun (q10:(List (Str×Bool))×(List za))=>some (.inl ((w64 (y4.1+1)),q10.1,q10.2))) else some (.inr y4.2.2))
noncomputable def Zr (d:(Option ZW))(n:Int):Option (List za):=
  (Zp d n).bind fun v1=>(bif (v1.Kind != 1) then some [] else (zai d n).bind fun v2=>(QH v2 0 [n]).bind fun v3=>(iter (ZD d v3) (0,(mput [] [120,109,108] true),[(za.mk [120,109,108] [104,116,116,112,58,47,47,119,119,119,46,119,51,46,111,114,103,47,88,77,76,47,49,57,57,56,47,110,97,109,101,115,112,97,99,101])])).bind (fun (q11:(List za))=>(QE q11).bind fun v12=>some v12))
noncomputable def ZT (prefix_:Str)(v1:(List za))(y2:Int):Option (Int⊕(Str⊕Unit)):=
  (bif (decide (y2<(v1.length:Int))) then (at' v1 y2).bind fun v3=>(bif (v3.Prefix==prefix_) then some (.inr (Sum.inl v3.URI)) else some (.inl (w64 (y2+1)))) else some (.inr (Sum.inr ())))
noncomputable def Jf (d:(Option ZW))(n:Int)(prefix_:Str):Option (Str×Bool):=
  (Zr d n).bind fun v1=>(iter (ZT prefix_ v1) 0).bind (Sum.elim (fun (q4:Str)=>some (q4,true)) (fun (q5:Unit)=>some ([],false)))
noncomputable def Zu:Option Bool:=
  (Jc [60,97,32,120,109,108,110,115,61,39,117,39,47,62]).bind fun v1=>(Jf v1.1 1 []).bind fun v2=>(bif (v1.2==0) then (bif v2.2 then (bif (v2.1==[117]) then (Zr v1.1 1).bind fun v3=>some ((v3.length:Int)==2) else some false) else some false) else some false)
noncomputable def doc_Doc_Top (d:(Option ZW)):Option Int:=
  (bif d.isNone then some 0 else (d).bind fun v1=>some v1.top)
noncomputable def zQ (v9:zd)(v10:(List za))(y11:Int)(y12:Bool×Int):Option ((Bool×Int)⊕Bool):=
  (bif (decide (y12.2<(v9.Decls.length:Int))) then (bif y12.1 then some (.inl (true,(w64 (y12.2+1)))) else (at' v9.Decls y12.2).bind fun v13=>(at' v10 y11).bind fun v14=>some (.inl ((v13.Prefix==v14.Prefix),(w64 (y12.2+1))))) else some (.inr y12.1))
noncomputable def qb (n:Int)(v4:(Option ZW)×Int)(v9:zd)(v10:(List za))(y11:Int):Option (Int⊕(Unit⊕Unit)):=
  (bif (decide (y11<(v10.length:Int))) then (iter (zQ v9 v10 y11) (false,0)).bind (fun (q15:Bool)=>(at' v10 y11).bind fun v16=>(Jf v4.1 n v16.Prefix).bind fun v17=>(bif (!q15) then (bif (!v17.2) then some (.inr (Sum.inl ())) else (at' v10 y11).bind fun v18=>(bif (!(v17.1==v18.URI)) then some (.inr (Sum.inl ())) else some (.inl (w64 (y11+1))))) else some (.inl (w64 (y11+1))))) else some (.inr (Sum.inr ())))
noncomputable def ZK (b:(List UInt8))(n:Int):Option Bool:=
  ((Zu).bind fun v1=>(bif (!v1) then some true else some (decide ((b.length:Int)>1500))):Option (Bool)).bind (fun (q2:Bool)=>(bif q2 then (Zu).bind fun v3=>some v3 else (Jc b).bind fun v4=>((bif (v4.2 != 0) then some true else (doc_Doc_Top v4.1).bind fun v5=>(bif (decide (n≤v5)) then some true else (Zp v4.1 n).bind fun v6=>some (v6.Kind != 1))):Option (Bool)).bind (fun (q7:Bool)=>(bif q7 then ((bif (v4.2==0) then some true else some v4.1.isNone):Option (Bool)).bind (fun (q8:Bool)=>some q8) else (Zp v4.1 n).bind fun v9=>(Zr v4.1 v9.Parent).bind fun v10=>(iter (qb n v4 v9 v10) 0).bind (Sum.elim (fun (q19:Unit)=>some false) (fun (q20:Unit)=>some true))))))
end G
