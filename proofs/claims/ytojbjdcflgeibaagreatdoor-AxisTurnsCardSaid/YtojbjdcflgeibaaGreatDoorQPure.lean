/- PLAIN FUNCTIONS, printed by aw.py: what the functions compute. No program, no memory. Conditions: none. -/
import Derived.Test.YtojbjdcflgeibaaGreatDoorAbsM2
import Derived.Lib.IndexMore
import Derived.Shelf.Strings.Replace
set_option linter.unusedVariables false
namespace G
open W
structure JT where
 lo:UInt8
 hi:UInt8
structure zb where
 Prefix:Str
 URI:Str
def zb.eqb (x y:zb):Bool:=((x.Prefix==y.Prefix)&&(x.URI==y.URI))
structure zP where
 Prefix:Str
 Local:Str
 URI:Str
 Value:Str
def zP.eqb (x y:zP):Bool:=((x.Prefix==y.Prefix)&&((x.Local==y.Local)&&((x.URI==y.URI)&&(x.Value==y.Value))))
structure zf where
 Kind:Int
 Parent:Int
 Prefix:Str
 Local:Str
 URI:Str
 Text:Str
 Decls:(List zb)
 Attrs:(List zP)
structure zv where
 n:Int
 name:Str
structure qe where
 from_:Int
 to_:Int
def qe.ints (x:qe):List Int:=[x.from_,x.to_]
def qe.eqb (x y:qe):Bool:=x.ints==y.ints
structure TNoCopy where
def TNoCopy.ints (x:TNoCopy):List Int:=[]
def TNoCopy.eqb (x y:TNoCopy):Bool:=x.ints==y.ints
structure TBool where
 blank:TNoCopy
 v:Int
structure TMutex2 where
 state:Int
 sema:Int
def TMutex2.ints (x:TMutex2):List Int:=[x.state,x.sema]
def TMutex2.eqb (x y:TMutex2):Bool:=x.ints==y.ints
structure TMutex where
 blank:TNoCopy
 mu:TMutex2
structure TOnce where
 blank:TNoCopy
 done:TBool
 m:TMutex
structure qg where
 l:(List zf)
 end_:(List Int)
 top:Int
structure TPair where
 a:(Option qg)
 b:(Option qg)
 comments:Bool
structure TItem where
 n:Int
 text:Str
 is_:Bool
structure TReader where
 S:Str
 At:Int
 L:(List zf)
 Bad:Bool
structure zk where
 N:Int
 Part:Int
 I:Int
def zk.ints (x:zk):List Int:=[x.N,x.Part,x.I]
def zk.eqb (x y:zk):Bool:=x.ints==y.ints
structure TIndex where
 Doc:(Option qg)
 ids:(List (Str×Int))
structure ZE where
 e0:Int
 e1:Int
def ZE.ints (x:ZE):List Int:=[x.e0,x.e1]
def ZE.eqb (x y:ZE):Bool:=x.ints==y.ints
def utf8First:Str:=[240,240,240,240,240,240,240,240,240,240,240,240,240,240,240,240,240,240,240,240,240,240,240,240,240,240,240,240,240,240,240,240,240,240,240,240,240,240,240,240,240,240,240,240,240,240,240,240,240,240,240,240,240,240,240,240,240,240,240,240,240,240,240,240,240,240,240,240,240,240,240,240,240,240,240,240,240,240,240,240,240,240,240,240,240,240,240,240,240,240,240,240,240,240,240,240,240,240,240,240,240,240,240,240,240,240,240,240,240,240,240,240,240,240,240,240,240,240,240,240,240,240,240,240,240,240,240,240,241,241,241,241,241,241,241,241,241,241,241,241,241,241,241,241,241,241,241,241,241,241,241,241,241,241,241,241,241,241,241,241,241,241,241,241,241,241,241,241,241,241,241,241,241,241,241,241,241,241,241,241,241,241,241,241,241,241,241,241,241,241,241,241,241,241,2,2,2,2,2,2,2,2,2,2,2,2,2,2,2,2,2,2,2,2,2,2,2,2,2,2,2,2,2,2,19,3,3,3,3,3,3,3,3,3,3,3,3,35,3,3,52,4,4,4,68,241,241,241,241,241,241,241,241,241,241,241]
def utf8Ranges:List JT:=[⟨128,191⟩,⟨160,191⟩,⟨128,159⟩,⟨144,191⟩,⟨128,143⟩,⟨0,0⟩,⟨0,0⟩,⟨0,0⟩,⟨0,0⟩,⟨0,0⟩,⟨0,0⟩,⟨0,0⟩,⟨0,0⟩,⟨0,0⟩,⟨0,0⟩,⟨0,0⟩]
noncomputable def qO (s:Str):Option Int:=
 (at' s 0).bind fun v1=>(at' s 1).bind fun v2=>(at' s 2).bind fun v3=>(at' s 3).bind fun v4=>(at' s 4).bind fun v5=>(at' s 5).bind fun v6=>(at' s 6).bind fun v7=>(at' s 7).bind fun v8=>some (v64 (bor 64 (v64 (bor 64 (v64 (bor 64 (v64 (bor 64 (v64 (bor 64 (v64 (bor 64 (v64 (bor 64 (v64 (v1.toNat:Int)) (v64 ((v64 (v2.toNat:Int))*2^8)))) (v64 ((v64 (v3.toNat:Int))*2^16)))) (v64 ((v64 (v4.toNat:Int))*2^24)))) (v64 ((v64 (v5.toNat:Int))*2^32)))) (v64 ((v64 (v6.toNat:Int))*2^40)))) (v64 ((v64 (v7.toNat:Int))*2^48)))) (v64 ((v64 (v8.toNat:Int))*2^56))))
noncomputable def Q5 (y13:Str):Option (Str⊕Str):=
 (bif (decide ((y13.length:Int)>32)) then (sub' y13 8 (y13.length:Int)).bind fun v14=>(sub' y13 16 (y13.length:Int)).bind fun v15=>(sub' y13 24 (y13.length:Int)).bind fun v16=>(qO y13).bind fun v17=>(qO v14).bind fun v18=>(qO v15).bind fun v19=>(qO v16).bind fun v20=>(bif ((v64 (band 64 (v64 (bor 64 (v64 (bor 64 v17 v18)) (v64 (bor 64 v19 v20)))) 9259542123273814144))==0) then (sub' y13 32 (y13.length:Int)).bind fun v21=>some (.inl v21) else some (.inr y13)) else some (.inr y13))
noncomputable def Jc (y2:Str):Option (Str⊕(Unit⊕Unit)):=
 (bif (decide ((y2.length:Int)>0)) then (at' y2 0).bind fun v3=>(bif (decide ((v3.toNat:Int)<128)) then (sub' y2 1 (y2.length:Int)).bind fun v4=>((bif (decide ((v4.length:Int)>8)) then (qO v4).bind fun v5=>some ((v64 (band 64 v5 9259542123273814144))==0) else some false):Option (Bool)).bind (fun (q6:Bool)=>(bif q6 then (sub' v4 8 (v4.length:Int)).bind fun v7=>((bif (decide ((v7.length:Int)>16)) then (sub' v7 8 (v7.length:Int)).bind fun v8=>(qO v7).bind fun v9=>(qO v8).bind fun v10=>some ((v64 (band 64 (v64 (bor 64 v9 v10)) 9259542123273814144))==0) else some false):Option (Bool)).bind (fun (q11:Bool)=>(bif q11 then (sub' v7 16 (v7.length:Int)).bind fun v12=>(iter (Q5) v12).bind (fun (q22:Str)=>some (.inl q22)) else some (.inl v7))) else some (.inl v4))) else (at' utf8First (v3.toNat:Int)).bind fun v23=>(at' utf8Ranges ((u8 ((v23.toNat:Int).fdiv (2^4))).toNat:Int)).bind fun v24=>(bif ((w64 ((u8 (band 8 (v23.toNat:Int) 7)).toNat:Int))==2) then (bif (decide ((y2.length:Int)<2)) then some (.inr (Sum.inl ())) else (at' y2 1).bind fun v25=>(bif (decide ((v25.toNat:Int)<(v24.lo.toNat:Int))) then some (.inr (Sum.inl ())) else (at' y2 1).bind fun v26=>(bif (decide ((v24.hi.toNat:Int)<(v26.toNat:Int))) then some (.inr (Sum.inl ())) else (sub' y2 2 (y2.length:Int)).bind fun v27=>some (.inl v27)))) else (bif ((w64 ((u8 (band 8 (v23.toNat:Int) 7)).toNat:Int))==3) then (bif (decide ((y2.length:Int)<3)) then some (.inr (Sum.inl ())) else (at' y2 1).bind fun v28=>(bif (decide ((v28.toNat:Int)<(v24.lo.toNat:Int))) then some (.inr (Sum.inl ())) else (at' y2 1).bind fun v29=>(bif (decide ((v24.hi.toNat:Int)<(v29.toNat:Int))) then some (.inr (Sum.inl ())) else (at' y2 2).bind fun v30=>(bif (decide ((v30.toNat:Int)<128)) then some (.inr (Sum.inl ())) else (at' y2 2).bind fun v31=>(bif (decide (191<(v31.toNat:Int))) then some (.inr (Sum.inl ())) else (sub' y2 3 (y2.length:Int)).bind fun v32=>some (.inl v32)))))) else (bif ((w64 ((u8 (band 8 (v23.toNat:Int) 7)).toNat:Int))==4) then (bif (decide ((y2.length:Int)<4)) then some (.inr (Sum.inl ())) else (at' y2 1).bind fun v33=>(bif (decide ((v33.toNat:Int)<(v24.lo.toNat:Int))) then some (.inr (Sum.inl ())) else (at' y2 1).bind fun v34=>(bif (decide ((v24.hi.toNat:Int)<(v34.toNat:Int))) then some (.inr (Sum.inl ())) else (at' y2 2).bind fun v35=>(bif (decide ((v35.toNat:Int)<128)) then some (.inr (Sum.inl ())) else (at' y2 2).bind fun v36=>(bif (decide (191<(v36.toNat:Int))) then some (.inr (Sum.inl ())) else (at' y2 3).bind fun v37=>(bif (decide ((v37.toNat:Int)<128)) then some (.inr (Sum.inl ())) else (at' y2 3).bind fun v38=>(bif (decide (191<(v38.toNat:Int))) then some (.inr (Sum.inl ())) else (sub' y2 4 (y2.length:Int)).bind fun v39=>some (.inl v39)))))))) else some (.inr (Sum.inl ())))))) else some (.inr (Sum.inr ())))
noncomputable def utf8_Valid (p:Str):Option Bool:=
 (sub3 p 0 (p.length:Int) (p.length:Int)).bind fun v1=>(iter (Jc) v1).bind (Sum.elim (fun (q40:Unit)=>some false) (fun (q41:Unit)=>some true))
noncomputable def utf_Valid (b:Str):Option Bool:=
 (utf8_Valid b).bind fun v1=>some v1
noncomputable def Qo (p:Str):Option (Int×Int):=
 (bif (decide ((p.length:Int)<1)) then some (65533,0) else (at' p 0).bind fun v1=>(at' utf8First (v1.toNat:Int)).bind fun v2=>(bif (decide ((v2.toNat:Int)≥240)) then (at' p 0).bind fun v3=>some ((w32 (bor 32 (w32 (bandn 32 (w32 (v3.toNat:Int)) ((w32 ((w32 (v2.toNat:Int))*2^31)).fdiv (2^31)))) (w32 (band 32 65533 ((w32 ((w32 (v2.toNat:Int))*2^31)).fdiv (2^31)))))),1) else (at' utf8Ranges ((u8 ((v2.toNat:Int).fdiv (2^4))).toNat:Int)).bind fun v4=>(bif (decide ((p.length:Int)<(w64 ((u8 (band 8 (v2.toNat:Int) 7)).toNat:Int)))) then some (65533,1) else (at' p 1).bind fun v5=>((bif (decide ((v5.toNat:Int)<(v4.lo.toNat:Int))) then some true else some (decide ((v4.hi.toNat:Int)<(v5.toNat:Int)))):Option (Bool)).bind (fun (q6:Bool)=>(bif q6 then some (65533,1) else (bif (decide ((w64 ((u8 (band 8 (v2.toNat:Int) 7)).toNat:Int))≤2)) then some ((w32 (bor 32 (w32 ((w32 ((u8 (band 8 (v1.toNat:Int) 31)).toNat:Int))*2^6)) (w32 ((u8 (band 8 (v5.toNat:Int) 63)).toNat:Int)))),2) else (at' p 2).bind fun v7=>((bif (decide ((v7.toNat:Int)<128)) then some true else some (decide (191<(v7.toNat:Int)))):Option (Bool)).bind (fun (q8:Bool)=>(bif q8 then some (65533,1) else (bif (decide ((w64 ((u8 (band 8 (v2.toNat:Int) 7)).toNat:Int))≤3)) then some ((w32 (bor 32 (w32 (bor 32 (w32 ((w32 ((u8 (band 8 (v1.toNat:Int) 15)).toNat:Int))*2^12)) (w32 ((w32 ((u8 (band 8 (v5.toNat:Int) 63)).toNat:Int))*2^6)))) (w32 ((u8 (band 8 (v7.toNat:Int) 63)).toNat:Int)))),3) else (at' p 3).bind fun v9=>((bif (decide ((v9.toNat:Int)<128)) then some true else some (decide (191<(v9.toNat:Int)))):Option (Bool)).bind (fun (q10:Bool)=>(bif q10 then some (65533,1) else some ((w32 (bor 32 (w32 (bor 32 (w32 (bor 32 (w32 ((w32 ((u8 (band 8 (v1.toNat:Int) 7)).toNat:Int))*2^18)) (w32 ((w32 ((u8 (band 8 (v5.toNat:Int) 63)).toNat:Int))*2^12)))) (w32 ((w32 ((u8 (band 8 (v7.toNat:Int) 63)).toNat:Int))*2^6)))) (w32 ((u8 (band 8 (v9.toNat:Int) 63)).toNat:Int)))),4))))))))))))
noncomputable def JR (p:Str)(y1:Unit):Option (Unit⊕(Int⊕Unit)):=
 (bif (decide (0<(p.length:Int))) then (at' p 0).bind fun v2=>(bif (decide ((v2.toNat:Int)<128)) then some (.inr (Sum.inl (w32 (v2.toNat:Int)))) else some (.inr (Sum.inr ()))) else some (.inr (Sum.inr ())))
noncomputable def zaa (p:Str):Option (Int×Int):=
 (iter (JR p) ()).bind (Sum.elim (fun (q3:Int)=>some (q3,1)) (fun (q4:Unit)=>(Qo p).bind fun v5=>some (v5.1,v5.2)))
noncomputable def JZ (b:Str)(y2:Int×(List Int)):Option ((Int×(List Int))⊕(List Int)):=
 (bif (decide (y2.1<(b.length:Int))) then (sub' b y2.1 (b.length:Int)).bind fun v3=>(zaa v3).bind fun v4=>(app 4 y2.2 [v4.1]).bind fun v5=>some (.inl ((w64 (y2.1+v4.2)),v5)) else some (.inr y2.2))
noncomputable def utf_Chars (b:Str):Option ((List Int)×Bool):=
 (utf_Valid b).bind fun v1=>(bif (!v1) then some ([],false) else (iter (JZ b) (0,[])).bind (fun (q6:(List Int))=>some (q6,true)))
noncomputable def utf_Xml (r_:Int):Option Bool:=
 ((bif (r_==9) then (bif (r_==9) then some (Sum.inl ()) else some (Sum.inr ())) else (bif (r_==10) then (bif (r_==10) then some (Sum.inl ()) else some (Sum.inr ())) else (bif (r_==13) then some (Sum.inl ()) else some (Sum.inr ())))):Option (Unit⊕Unit)).bind (Sum.elim (fun (q1:Unit)=>some true) (fun (q2:Unit)=>(bif (decide (r_≥32)) then (bif (decide (r_≤55295)) then some true else (bif (decide (r_≥57344)) then (bif (decide (r_≤65533)) then some true else (bif (decide (r_≥65536)) then some (decide (r_≤1114111)) else some false)) else (bif (decide (r_≥65536)) then some (decide (r_≤1114111)) else some false))) else (bif (decide (r_≥57344)) then (bif (decide (r_≤65533)) then some true else (bif (decide (r_≥65536)) then some (decide (r_≤1114111)) else some false)) else (bif (decide (r_≥65536)) then some (decide (r_≤1114111)) else some false)))))
noncomputable def zaZ (v1:(List Int)×Bool)(y2:Bool×Int):Option ((Bool×Int)⊕Bool):=
 (bif (decide (y2.2<(v1.1.length:Int))) then (at' v1.1 y2.2).bind fun v3=>(bif y2.1 then (utf_Xml v3).bind fun v4=>some (.inl (v4,(w64 (y2.2+1)))) else some (.inl (false,(w64 (y2.2+1))))) else some (.inr y2.1))
noncomputable def utf_Text (b:Str):Option Bool:=
 (utf_Chars b).bind fun v1=>(iter (zaZ v1) (v1.2,0)).bind (fun (q5:Bool)=>some q5)
noncomputable def zaF (s:Str)(sep:Str):Option Int:=
 bif decide (s.length<4294967281∧1≤sep.length) then some ((Go.Lib.countB ⟨s.toArray⟩ ⟨sep.toArray⟩:Int)) else none
noncomputable def stringslite_Index (s:Str)(sep:Str):Option Int:=
 bif decide (s.length<4294967281) then some (Go.Lib.index s sep) else none
noncomputable def QC (s:Str)(substr:Str):Option Int:=
 (stringslite_Index s substr).bind fun v1=>some v1
noncomputable def ZC (s:Str):Option (Int×Int):=
 (bif (decide ((s.length:Int)<1)) then some (65533,0) else (at' s 0).bind fun v1=>(at' utf8First (v1.toNat:Int)).bind fun v2=>(bif (decide ((v2.toNat:Int)≥240)) then (at' s 0).bind fun v3=>some ((w32 (bor 32 (w32 (bandn 32 (w32 (v3.toNat:Int)) ((w32 ((w32 (v2.toNat:Int))*2^31)).fdiv (2^31)))) (w32 (band 32 65533 ((w32 ((w32 (v2.toNat:Int))*2^31)).fdiv (2^31)))))),1) else (at' utf8Ranges ((u8 ((v2.toNat:Int).fdiv (2^4))).toNat:Int)).bind fun v4=>(bif (decide ((s.length:Int)<(w64 ((u8 (band 8 (v2.toNat:Int) 7)).toNat:Int)))) then some (65533,1) else (at' s 1).bind fun v5=>((bif (decide ((v5.toNat:Int)<(v4.lo.toNat:Int))) then some true else some (decide ((v4.hi.toNat:Int)<(v5.toNat:Int)))):Option (Bool)).bind (fun (q6:Bool)=>(bif q6 then some (65533,1) else (bif (decide ((w64 ((u8 (band 8 (v2.toNat:Int) 7)).toNat:Int))≤2)) then some ((w32 (bor 32 (w32 ((w32 ((u8 (band 8 (v1.toNat:Int) 31)).toNat:Int))*2^6)) (w32 ((u8 (band 8 (v5.toNat:Int) 63)).toNat:Int)))),2) else (at' s 2).bind fun v7=>((bif (decide ((v7.toNat:Int)<128)) then some true else some (decide (191<(v7.toNat:Int)))):Option (Bool)).bind (fun (q8:Bool)=>(bif q8 then some (65533,1) else (bif (decide ((w64 ((u8 (band 8 (v2.toNat:Int) 7)).toNat:Int))≤3)) then some ((w32 (bor 32 (w32 (bor 32 (w32 ((w32 ((u8 (band 8 (v1.toNat:Int) 15)).toNat:Int))*2^12)) (w32 ((w32 ((u8 (band 8 (v5.toNat:Int) 63)).toNat:Int))*2^6)))) (w32 ((u8 (band 8 (v7.toNat:Int) 63)).toNat:Int)))),3) else (at' s 3).bind fun v9=>((bif (decide ((v9.toNat:Int)<128)) then some true else some (decide (191<(v9.toNat:Int)))):Option (Bool)).bind (fun (q10:Bool)=>(bif q10 then some (65533,1) else some ((w32 (bor 32 (w32 (bor 32 (w32 (bor 32 (w32 ((w32 ((u8 (band 8 (v1.toNat:Int) 7)).toNat:Int))*2^18)) (w32 ((w32 ((u8 (band 8 (v5.toNat:Int) 63)).toNat:Int))*2^12)))) (w32 ((w32 ((u8 (band 8 (v7.toNat:Int) 63)).toNat:Int))*2^6)))) (w32 ((u8 (band 8 (v9.toNat:Int) 63)).toNat:Int)))),4))))))))))))
noncomputable def Z9 (s:Str):Option (Int×Int):=
 (bif (!(s==[])) then (at' s 0).bind fun v1=>(bif (decide ((v1.toNat:Int)<128)) then (at' s 0).bind fun v2=>some ((w32 (v2.toNat:Int)),1) else (ZC s).bind fun v3=>some (v3.1,v3.2)) else (ZC s).bind fun v4=>some (v4.1,v4.2))
noncomputable def Zp (u1:Bool):Option Unit:=
 (bif u1 then some () else some ())
noncomputable def Qd (u1:Int)(u2:Bool):Option Unit:=
 (mnz (w64 ((w64 (2*0))+u1))).bind fun v1=>(rng (v1:Int) 0 0).bind fun _=>some ()
noncomputable def qN (u1:Int)(u2:Bool):Option Unit:=
 (Zp u2).bind fun v1=>(bif (decide (u1<0)) then none else (bif (decide ((w64 (0-0))<u1)) then (Qd u1 false).bind fun v2=>some () else some ()))
noncomputable def Zr (u1:Bool)(u2:Str):Option Unit:=
 (bif u1 then some () else some ())
noncomputable def ze (u1:Str)(u2:Bool)(u3:Str):Option (Int×Str):=
 (Zr u2 u3).bind fun v1=>(app 1 u3 u1).bind fun v2=>some ((u1.length:Int),v2)
noncomputable def zA (u1:Bool)(u2:Str):Option Str:=
 (unsf u2).bind fun v1=>some v1
noncomputable def ZT (s:Str)(old:Str)(new:Str)(v2:Int)(y5:Int×Int×Str):Option ((Int×Int×Str)⊕(Int×Str)):=
 (bif (decide (y5.2.1<v2)) then (sub' s y5.1 (s.length:Int)).bind fun v6=>(QC v6 old).bind fun v7=>(sub' s y5.1 (w64 (y5.1+v7))).bind fun v8=>(ze v8 false y5.2.2).bind fun v9=>(ze new false v9.2).bind fun v10=>some (.inl ((w64 ((w64 (y5.1+v7))+(old.length:Int))),(w64 (y5.2.1+1)),v10.2)) else some (.inr (y5.1,y5.2.2)))
noncomputable def strings_Replace_b2 (s:Str)(new:Str)(v2:Int)(y16:Int×Int×Str):Option ((Int×Int×Str)⊕(Int×Str)):=
 (bif (decide (y16.2.1<(w64 (v2-1)))) then (sub' s y16.1 (s.length:Int)).bind fun v17=>(Z9 v17).bind fun v18=>(sub' s y16.1 (w64 (y16.1+v18.2))).bind fun v19=>(ze v19 false y16.2.2).bind fun v20=>(ze new false v20.2).bind fun v21=>some (.inl ((w64 (y16.1+v18.2)),(w64 (y16.2.1+1)),v21.2)) else some (.inr (y16.1,y16.2.2)))
noncomputable def strings_Replace_b3 (s:Str)(old:Str)(new:Str)(n:Int)(y27:Int×Int×Str):Option ((Int×Int×Str)⊕(Int×Str)):=
 (bif (decide (y27.2.1<n)) then (sub' s y27.1 (s.length:Int)).bind fun v28=>(QC v28 old).bind fun v29=>(sub' s y27.1 (w64 (y27.1+v29))).bind fun v30=>(ze v30 false y27.2.2).bind fun v31=>(ze new false v31.2).bind fun v32=>some (.inl ((w64 ((w64 (y27.1+v29))+(old.length:Int))),(w64 (y27.2.1+1)),v32.2)) else some (.inr (y27.1,y27.2.2)))
noncomputable def strings_Replace_b4 (s:Str)(new:Str)(n:Int)(y38:Int×Int×Str):Option ((Int×Int×Str)⊕(Int×Str)):=
 (bif (decide (y38.2.1<(w64 (n-1)))) then (sub' s y38.1 (s.length:Int)).bind fun v39=>(Z9 v39).bind fun v40=>(sub' s y38.1 (w64 (y38.1+v40.2))).bind fun v41=>(ze v41 false y38.2.2).bind fun v42=>(ze new false v42.2).bind fun v43=>some (.inl ((w64 (y38.1+v40.2)),(w64 (y38.2.1+1)),v43.2)) else some (.inr (y38.1,y38.2.2)))
noncomputable def J8 (s:Str)(old:Str)(new:Str)(n:Int):Option Str:=
 ((bif (old==new) then some true else some (n==0)):Option (Bool)).bind (fun (q1:Bool)=>(bif q1 then some s else (zaF s old).bind fun v2=>(bif (v2==0) then some s else ((bif (decide (n<0)) then some true else some (decide (v2<n))):Option (Bool)).bind (fun (q3:Bool)=>(bif q3 then (qN (w64 ((s.length:Int)+(w64 (v2*(w64 ((new.length:Int)-(old.length:Int))))))) true).bind fun v4=>(bif (decide ((old.length:Int)>0)) then (iter (ZT s old new v2) (0,0,[])).bind (fun (q11:Int×Str)=>(sub' s q11.1 (s.length:Int)).bind fun v12=>(ze v12 false q11.2).bind fun v13=>(zA false v13.2).bind fun v14=>some v14) else (ze new false []).bind fun v15=>(iter (strings_Replace_b2 s new v2) (0,0,v15.2)).bind (fun (q22:Int×Str)=>(sub' s q22.1 (s.length:Int)).bind fun v23=>(ze v23 false q22.2).bind fun v24=>(zA false v24.2).bind fun v25=>some v25)) else (qN (w64 ((s.length:Int)+(w64 (n*(w64 ((new.length:Int)-(old.length:Int))))))) true).bind fun v26=>(bif (decide ((old.length:Int)>0)) then (iter (strings_Replace_b3 s old new n) (0,0,[])).bind (fun (q33:Int×Str)=>(sub' s q33.1 (s.length:Int)).bind fun v34=>(ze v34 false q33.2).bind fun v35=>(zA false v35.2).bind fun v36=>some v36) else (ze new false []).bind fun v37=>(iter (strings_Replace_b4 s new n) (0,0,v37.2)).bind (fun (q44:Int×Str)=>(sub' s q44.1 (s.length:Int)).bind fun v45=>(ze v45 false q44.2).bind fun v46=>(zA false v46.2).bind fun v47=>some v47)))))))
noncomputable def QK (s:Str)(old:Str)(new:Str):Option Str:=
 (J8 s old new (-1)).bind fun v1=>some v1
noncomputable def chars_Lines (s:Str):Option Str:=
 (QK s [13,10] [10]).bind fun v1=>(QK v1 [13] [10]).bind fun v2=>some v2
noncomputable def QE (c:UInt8):Option Bool:=
 (bif ((c.toNat:Int)==32) then some true else (bif ((c.toNat:Int)==9) then some true else (bif ((c.toNat:Int)==10) then some true else some ((c.toNat:Int)==13))))
noncomputable def Zg (s:Str)(prefix_:Str):Option Bool:=
 (bif (decide ((s.length:Int)≥(prefix_.length:Int))) then (sub' s 0 (prefix_.length:Int)).bind fun v1=>some (v1==prefix_) else some false)
noncomputable def Qb (s:Str)(prefix_:Str):Option Bool:=
 (Zg s prefix_).bind fun v1=>some v1
noncomputable def QR (s:Str)(prefix_:Str):Option (Str×Bool):=
 (Zg s prefix_).bind fun v1=>(bif (!v1) then some (s,false) else (sub' s (prefix_.length:Int) (s.length:Int)).bind fun v2=>some (v2,true))
noncomputable def ZL (s:Str)(prefix_:Str):Option (Str×Bool):=
 (QR s prefix_).bind fun v1=>some (v1.1,v1.2)
noncomputable def qq (s:Str)(substr:Str):Option Bool:=
 (QC s substr).bind fun v1=>some (decide (v1≥0))
noncomputable def zaL (s:Str)(sep:Str):Option (Str×Str×Bool):=
 (stringslite_Index s sep).bind fun v1=>(bif (decide (v1≥0)) then (sub' s 0 v1).bind fun v2=>(sub' s (w64 (v1+(sep.length:Int))) (s.length:Int)).bind fun v3=>some (v2,v3,true) else some (s,[],false))
noncomputable def qi (s:Str)(sep:Str):Option (Str×Str×Bool):=
 (zaL s sep).bind fun v1=>some (v1.1,v1.2.1,v1.2.2)
noncomputable def Jg (s:Str)(y1:Int×Str):Option ((Int×Str)⊕Str):=
 (bif (decide (y1.1<(s.length:Int))) then (at' y1.2 y1.1).bind fun v2=>(bif (decide ((v2.toNat:Int)≥65)) then (bif (decide ((v2.toNat:Int)≤90)) then (at' y1.2 y1.1).bind fun v3=>(put y1.2 y1.1 ((v2+97)-65)).bind fun v4=>some (.inl ((w64 (y1.1+1)),v4)) else some (.inl ((w64 (y1.1+1)),y1.2))) else some (.inl ((w64 (y1.1+1)),y1.2))) else some (.inr y1.2))
noncomputable def parse_fold (s:Str):Option Str:=
 (iter (Jg s) (0,s)).bind (fun (q5:Str)=>some q5)
noncomputable def zao (r_:Int)(l:(List qe))(y1:Int):Option (Int⊕(Unit⊕Unit)):=
 (bif (decide (y1<(l.length:Int))) then (at' l y1).bind fun v2=>(bif (decide (r_≥v2.from_)) then (bif (decide (r_≤v2.to_)) then some (.inr (Sum.inl ())) else some (.inl (w64 (y1+1)))) else some (.inl (w64 (y1+1)))) else some (.inr (Sum.inr ())))
noncomputable def name_in (r_:Int)(l:(List qe)):Option Bool:=
 (iter (zao r_ l) 0).bind (Sum.elim (fun (q3:Unit)=>some true) (fun (q4:Unit)=>some false))
noncomputable def za5 (r_:Int):Option Bool:=
 (bif (r_==95) then some true else (name_in r_ [(qe.mk 65 90),(qe.mk 97 122),(qe.mk 192 214),(qe.mk 216 246),(qe.mk 248 767),(qe.mk 880 893),(qe.mk 895 8191),(qe.mk 8204 8205),(qe.mk 8304 8591),(qe.mk 11264 12271),(qe.mk 12289 55295),(qe.mk 63744 64975),(qe.mk 65008 65533),(qe.mk 65536 983039)]).bind fun v1=>some v1)
noncomputable def zaY (r_:Int):Option Bool:=
 (za5 r_).bind fun v1=>(bif v1 then some true else (bif (r_==45) then some true else (bif (r_==46) then some true else (bif (r_==183) then some true else (name_in r_ [(qe.mk 48 57),(qe.mk 768 879),(qe.mk 8255 8256)]).bind fun v2=>some v2))))
noncomputable def zal (v1:(List Int)×Bool)(y4:Int):Option (Int⊕(Unit⊕Unit)):=
 (bif (decide (y4<(v1.1.length:Int))) then (at' v1.1 y4).bind fun v5=>(zaY v5).bind fun v6=>(bif (!v6) then some (.inr (Sum.inl ())) else some (.inl (w64 (y4+1)))) else some (.inr (Sum.inr ())))
noncomputable def JU (s:Str):Option Bool:=
 (utf_Chars s).bind fun v1=>(bif (!v1.2) then some false else (bif ((v1.1.length:Int)==0) then some false else (at' v1.1 0).bind fun v2=>(za5 v2).bind fun v3=>(bif (!v3) then some false else (iter (zal v1) 0).bind (Sum.elim (fun (q7:Unit)=>some false) (fun (q8:Unit)=>some true)))))
noncomputable def name_Split (s:Str):Option (Str×Str×Bool):=
 (qi s [58]).bind fun v1=>(bif (!v1.2.2) then (bif v1.2.2 then (JU []).bind fun v2=>(bif (!v2) then some ([],[],false) else (JU s).bind fun v3=>(bif (!v3) then some ([],[],false) else some ([],s,true))) else (JU s).bind fun v4=>(bif (!v4) then some ([],[],false) else some ([],s,true))) else (bif v1.2.2 then (JU v1.1).bind fun v5=>(bif (!v5) then some ([],[],false) else (JU v1.2.1).bind fun v6=>(bif (!v6) then some ([],[],false) else some (v1.1,v1.2.1,true))) else (JU v1.2.1).bind fun v7=>(bif (!v7) then some ([],[],false) else some (v1.1,v1.2.1,true))))
noncomputable def atomic_b32 (b:Bool):Option Int:=
 (bif b then some 1 else some 0)
noncomputable def chars_named (s:Str):Option (Str×Bool):=
 (bif (s==[108,116]) then some ([60],true) else (bif (s==[103,116]) then some ([62],true) else (bif (s==[97,109,112]) then some ([38],true) else (bif (s==[97,112,111,115]) then some ([39],true) else (bif (s==[113,117,111,116]) then some ([34],true) else some ([],false))))))
noncomputable def qh (s:Str)(base:Int)(y1:Int×Int):Option ((Int×Int)⊕(Unit⊕Int)):=
 (bif (decide (y1.2<(s.length:Int))) then (at' s y1.2).bind fun v2=>((bif (decide ((w32 (v2.toNat:Int))≥48)) then some (decide ((w32 (v2.toNat:Int))≤57)) else some false):Option (Bool)).bind (fun (q3:Bool)=>(bif q3 then (bif (decide ((w32 ((w32 (v2.toNat:Int))-48))≥base)) then some (.inr (Sum.inl ())) else some (.inl ((mn (w32 ((w32 (y1.1*base))+(w32 ((w32 (v2.toNat:Int))-48)))) 1114112),(w64 (y1.2+1))))) else ((bif (decide ((w32 (v2.toNat:Int))≥97)) then some (decide ((w32 (v2.toNat:Int))≤102)) else some false):Option (Bool)).bind (fun (q4:Bool)=>(bif q4 then (bif (decide ((w32 ((w32 ((w32 (v2.toNat:Int))-97))+10))≥base)) then some (.inr (Sum.inl ())) else some (.inl ((mn (w32 ((w32 (y1.1*base))+(w32 ((w32 ((w32 (v2.toNat:Int))-97))+10)))) 1114112),(w64 (y1.2+1))))) else (bif (decide ((w32 (v2.toNat:Int))≥65)) then (bif (decide ((w32 (v2.toNat:Int))≤70)) then (bif (decide ((w32 ((w32 ((w32 (v2.toNat:Int))-65))+10))≥base)) then some (.inr (Sum.inl ())) else some (.inl ((mn (w32 ((w32 (y1.1*base))+(w32 ((w32 ((w32 (v2.toNat:Int))-65))+10)))) 1114112),(w64 (y1.2+1))))) else (bif (decide (base≥base)) then some (.inr (Sum.inl ())) else some (.inl ((mn (w32 ((w32 (y1.1*base))+base)) 1114112),(w64 (y1.2+1)))))) else (bif (decide (base≥base)) then some (.inr (Sum.inl ())) else some (.inl ((mn (w32 ((w32 (y1.1*base))+base)) 1114112),(w64 (y1.2+1)))))))))) else some (.inr (Sum.inr y1.1)))
noncomputable def JW (s:Str)(base:Int):Option (Int×Bool):=
 (iter (qh s base) (0,0)).bind (Sum.elim (fun (q5:Unit)=>some (0,false)) (fun (q6:Int)=>some (q6,(!(s==[])))))
noncomputable def zas (r_:Int):Option Bool:=
 (bif (decide (0≤r_)) then (bif (decide (r_<55296)) then some true else (bif (decide (57343<r_)) then (bif (decide (r_≤1114111)) then some true else some false) else some false)) else (bif (decide (57343<r_)) then (bif (decide (r_≤1114111)) then some true else some false) else some false))
noncomputable def Qc (p:Str)(r_:Int):Option Str:=
 (bif (decide ((v32 r_)≤2047)) then (app 1 p [(u8 (bor 8 192 ((u8 (r_.fdiv (2^6))).toNat:Int))),(u8 (bor 8 128 ((u8 (band 8 ((u8 r_).toNat:Int) 63)).toNat:Int)))]).bind fun v1=>some v1 else (bif (decide ((v32 r_)<55296)) then (bif (decide ((v32 r_)<55296)) then (app 1 p [(u8 (bor 8 224 ((u8 (r_.fdiv (2^12))).toNat:Int))),(u8 (bor 8 128 ((u8 (band 8 ((u8 (r_.fdiv (2^6))).toNat:Int) 63)).toNat:Int))),(u8 (bor 8 128 ((u8 (band 8 ((u8 r_).toNat:Int) 63)).toNat:Int)))]).bind fun v2=>some v2 else ((bif (decide ((v32 r_)>65535)) then some (decide ((v32 r_)≤1114111)) else some false):Option (Bool)).bind (fun (q3:Bool)=>(bif q3 then (app 1 p [(u8 (bor 8 240 ((u8 (r_.fdiv (2^18))).toNat:Int))),(u8 (bor 8 128 ((u8 (band 8 ((u8 (r_.fdiv (2^12))).toNat:Int) 63)).toNat:Int))),(u8 (bor 8 128 ((u8 (band 8 ((u8 (r_.fdiv (2^6))).toNat:Int) 63)).toNat:Int))),(u8 (bor 8 128 ((u8 (band 8 ((u8 r_).toNat:Int) 63)).toNat:Int)))]).bind fun v4=>some v4 else (app 1 p [239,191,189]).bind fun v5=>some v5))) else (bif (decide (57343<(v32 r_))) then (bif (decide ((v32 r_)≤65535)) then (app 1 p [(u8 (bor 8 224 ((u8 (r_.fdiv (2^12))).toNat:Int))),(u8 (bor 8 128 ((u8 (band 8 ((u8 (r_.fdiv (2^6))).toNat:Int) 63)).toNat:Int))),(u8 (bor 8 128 ((u8 (band 8 ((u8 r_).toNat:Int) 63)).toNat:Int)))]).bind fun v6=>some v6 else ((bif (decide ((v32 r_)>65535)) then some (decide ((v32 r_)≤1114111)) else some false):Option (Bool)).bind (fun (q7:Bool)=>(bif q7 then (app 1 p [(u8 (bor 8 240 ((u8 (r_.fdiv (2^18))).toNat:Int))),(u8 (bor 8 128 ((u8 (band 8 ((u8 (r_.fdiv (2^12))).toNat:Int) 63)).toNat:Int))),(u8 (bor 8 128 ((u8 (band 8 ((u8 (r_.fdiv (2^6))).toNat:Int) 63)).toNat:Int))),(u8 (bor 8 128 ((u8 (band 8 ((u8 r_).toNat:Int) 63)).toNat:Int)))]).bind fun v8=>some v8 else (app 1 p [239,191,189]).bind fun v9=>some v9))) else ((bif (decide ((v32 r_)>65535)) then some (decide ((v32 r_)≤1114111)) else some false):Option (Bool)).bind (fun (q10:Bool)=>(bif q10 then (app 1 p [(u8 (bor 8 240 ((u8 (r_.fdiv (2^18))).toNat:Int))),(u8 (bor 8 128 ((u8 (band 8 ((u8 (r_.fdiv (2^12))).toNat:Int) 63)).toNat:Int))),(u8 (bor 8 128 ((u8 (band 8 ((u8 (r_.fdiv (2^6))).toNat:Int) 63)).toNat:Int))),(u8 (bor 8 128 ((u8 (band 8 ((u8 r_).toNat:Int) 63)).toNat:Int)))]).bind fun v11=>some v11 else (app 1 p [239,191,189]).bind fun v12=>some v12)))))
noncomputable def J3 (p:Str)(r_:Int):Option Str:=
 (bif (decide ((v32 r_)≤127)) then (app 1 p [(u8 r_)]).bind fun v1=>some v1 else (Qc p r_).bind fun v2=>some v2)
noncomputable def utf_Bytes_b1 (l:(List Int))(y1:Int×Str):Option ((Int×Str)⊕(Unit⊕Str)):=
 (bif (decide (y1.1<(l.length:Int))) then (at' l y1.1).bind fun v2=>(zas v2).bind fun v3=>(bif (!v3) then some (.inr (Sum.inl ())) else (J3 y1.2 v2).bind fun v4=>some (.inl ((w64 (y1.1+1)),v4))) else some (.inr (Sum.inr y1.2)))
noncomputable def utf_Bytes (l:(List Int)):Option (Str×Bool):=
 (iter (utf_Bytes_b1 l) (0,[])).bind (Sum.elim (fun (q5:Unit)=>some ([],false)) (fun (q6:Str)=>some (q6,true)))
noncomputable def Q2 (s:Str):Option (Str×Bool):=
 (ZL s [35]).bind fun v1=>(bif (!v1.2) then (chars_named s).bind fun v2=>some (v2.1,v2.2) else (ZL v1.1 [120]).bind fun v3=>(bif v3.2 then (JW v3.1 16).bind fun v4=>(bif (!v4.2) then some ([],false) else (utf_Xml v4.1).bind fun v5=>(bif (!v5) then some ([],false) else (utf_Bytes [v4.1]).bind fun v6=>some (v6.1,v6.2))) else (JW v1.1 10).bind fun v7=>(bif (!v7.2) then some ([],false) else (utf_Xml v7.1).bind fun v8=>(bif (!v8) then some ([],false) else (utf_Bytes [v7.1]).bind fun v9=>some (v9.1,v9.2)))))
noncomputable def qA (s:Str)(plain:(Str→Option Str))(y4:Unit⊕(Str×Str)):Option ((Unit⊕(Str×Str))⊕(Str×Bool)):=
 (Sum.elim (fun (y4:Unit)=>(qi s [38]).bind fun v5=>(plain v5.1).bind fun v6=>(ze v6 true []).bind fun v7=>(bif (!v5.2.2) then (zA false v7.2).bind fun v8=>some (.inr (v8,true)) else (qi v5.2.1 [59]).bind fun v9=>(Q2 v9.1).bind fun v10=>(bif (!v9.2.2) then some (.inr ([],false)) else (bif (!v10.2) then some (.inr ([],false)) else (ze v10.1 false v7.2).bind fun v11=>some (.inl (Sum.inr (v9.2.1,v11.2))))))) (fun (y4:Str×Str)=>(qi y4.1 [38]).bind fun v12=>(plain v12.1).bind fun v13=>(ze v13 false y4.2).bind fun v14=>(bif (!v12.2.2) then (zA false v14.2).bind fun v15=>some (.inr (v15,true)) else (qi v12.2.1 [59]).bind fun v16=>(Q2 v16.1).bind fun v17=>(bif (!v16.2.2) then some (.inr ([],false)) else (bif (!v17.2) then some (.inr ([],false)) else (ze v17.1 false v14.2).bind fun v18=>some (.inl (Sum.inr (v16.2.1,v18.2)))))))) y4
noncomputable def chars_expand (s:Str)(plain:(Str→Option Str)):Option (Str×Bool):=
 ((utf_Text s).bind fun v1=>(bif (!v1) then some true else (qq s [60]).bind fun v2=>some v2):Option (Bool)).bind (fun (q3:Bool)=>(bif q3 then some ([],false) else (iter (qA s plain) (Sum.inl ())).bind (fun (q19:Str×Bool)=>some (q19.1,q19.2))))
noncomputable def ZJ (u1:(List Str)):Option (List Str):=
 (bif (((u1.length:Int).tmod 2)==1) then none else (app 16 [] u1).bind fun v1=>some v1)
noncomputable def Jk (u1:(List Str)):Option Unit:=
 some ()
noncomputable def JP (u1:(List Str)):Option Unit:=
 some ()
noncomputable def Q1 (u1:(List Str)):Option Unit:=
 (JP u1).bind fun v1=>some ()
noncomputable def Jj (u1:(List Str)):Option Unit:=
 some ()
noncomputable def Qi (u1:(List Str))(y5:Bool×Int):Option ((Bool×Int)⊕Bool):=
 (bif (decide (y5.2<(u1.length:Int))) then (at' u1 y5.2).bind fun v6=>(bif ((v6.length:Int) != 1) then none else (at' u1 (w64 (y5.2+1))).bind fun v7=>(bif ((v7.length:Int) != 1) then some (.inl (false,(w64 (y5.2+2)))) else some (.inl (y5.1,(w64 (y5.2+2)))))) else some (.inr y5.1))
noncomputable def Qe (y9:Int×Str):Option ((Int×Str)⊕Str):=
 (bif (decide (y9.1<256)) then (atA 256 y9.2 y9.1).bind fun v10=>(put y9.2 y9.1 (u8 y9.1)).bind fun v11=>some (.inl ((w64 (y9.1+1)),v11)) else some (.inr y9.2))
noncomputable def Qg (u1:(List Str))(y13:Int×Str):Option ((Int×Str)⊕Str):=
 (bif (decide (y13.1≥0)) then (at' u1 y13.1).bind fun v14=>(at' v14 0).bind fun v15=>(at' u1 (w64 (y13.1+1))).bind fun v16=>(at' v16 0).bind fun v17=>(atA 256 y13.2 (v15.toNat:Int)).bind fun v18=>(put y13.2 (v15.toNat:Int) v17).bind fun v19=>some (.inl ((w64 (y13.1-2)),v19)) else some (.inr y13.2))
noncomputable def qY (u1:(List Str)):Option Str:=
 ((bif ((u1.length:Int)==2) then (at' u1 0).bind fun v1=>some (decide ((v1.length:Int)>1)) else some false):Option (Bool)).bind (fun (q2:Bool)=>(bif q2 then none else (iter (Qi u1) (true,0)).bind (fun (q8:Bool)=>(bif q8 then (iter (Qe) (0,(List.replicate 256 0))).bind (fun (q12:Str)=>(iter (Qg u1) ((w64 ((u1.length:Int)-2)),q12)).bind (fun (q20:Str)=>some q20)) else none))))
noncomputable def Ze (u1:(List Str)):Option Str:=
 (qY u1).bind fun v1=>some v1
noncomputable def zar (u1:Str):Option Unit:=
 some ()
noncomputable def zat (u1:Str):Option Unit:=
 some ()
noncomputable def JM (u1:Str):Option Unit:=
 (zat u1).bind fun v1=>some ()
noncomputable def Jl (u1:(List Str)):Option Str:=
 (Q1 u1).bind fun v1=>(Jj u1).bind fun v2=>(Ze u1).bind fun v3=>(zar v3).bind fun v4=>(JM v3).bind fun v5=>some v3
noncomputable def J5 (u1:(List Str)):Option Str:=
 (Jk u1).bind fun v1=>(Jl u1).bind fun v2=>some v2
noncomputable def zp (u1:Str)(u2:Str)(y1:Int⊕(Int×Str)):Option ((Int⊕(Int×Str))⊕(Unit⊕Str)):=
 (Sum.elim (fun (y1:Int)=>(bif (decide (y1<(u1.length:Int))) then (at' u1 y1).bind fun v2=>(atA 256 u2 (v2.toNat:Int)).bind fun v3=>(bif ((v3.toNat:Int) != (v2.toNat:Int)) then (atA 256 u2 (v2.toNat:Int)).bind fun v4=>(at' u1 y1).bind fun v5=>(put u1 y1 v4).bind fun v6=>some (.inl (Sum.inr ((w64 (y1+1)),v6))) else some (.inl (Sum.inl (w64 (y1+1))))) else some (.inr (Sum.inl ())))) (fun (y1:Int×Str)=>(bif (decide (y1.1<(u1.length:Int))) then (at' u1 y1.1).bind fun v7=>(atA 256 u2 (v7.toNat:Int)).bind fun v8=>(bif ((v8.toNat:Int) != (v7.toNat:Int)) then (ne0 y1.2).bind fun v9=>(atA 256 u2 (v7.toNat:Int)).bind fun v10=>(at' y1.2 y1.1).bind fun v11=>(put y1.2 y1.1 v10).bind fun v12=>some (.inl (Sum.inr ((w64 (y1.1+1)),v12))) else some (.inl (Sum.inr ((w64 (y1.1+1)),y1.2)))) else some (.inr (Sum.inr y1.2))))) y1
noncomputable def z6 (u1:Str)(u2:Str):Option Str:=
 (iter (zp u1 u2) (Sum.inl 0)).bind (Sum.elim (fun (q13:Unit)=>some u1) (fun (q14:Str)=>(ne0 q14).bind fun v15=>some q14))
noncomputable def qL (u1:Str)(u2:(List Str)):Option (Str×Str):=
 (J5 u2).bind fun v1=>(z6 u1 v1).bind fun v2=>some (v2,v1)
noncomputable def Ji (u1:Str):Option Unit:=
 some ()
noncomputable def zaI (u1:Str):Option Unit:=
 (Ji u1).bind fun v1=>some ()
noncomputable def qm (u1:Str)(u2:Str):Option Str:=
 (zaI u2).bind fun v1=>(z6 u1 u2).bind fun v2=>some v2
noncomputable def qf (u1:Str)(u2:(List Str))(y4:Unit⊕(Str×Str×Str)):Option ((Unit⊕(Str×Str×Str))⊕(Str×Bool×Str)):=
 (Sum.elim (fun (y4:Unit)=>(qi u1 [38]).bind fun v5=>(qL v5.1 u2).bind fun v6=>(ze v6.1 true []).bind fun v7=>(bif (!v5.2.2) then (zA false v7.2).bind fun v8=>some (.inr (v8,true,v6.2)) else (qi v5.2.1 [59]).bind fun v9=>(Q2 v9.1).bind fun v10=>(bif (!v9.2.2) then some (.inr ([],false,v6.2)) else (bif (!v10.2) then some (.inr ([],false,v6.2)) else (ze v10.1 false v7.2).bind fun v11=>some (.inl (Sum.inr (v9.2.1,v6.2,v11.2))))))) (fun (y4:Str×Str×Str)=>(qi y4.1 [38]).bind fun v12=>(qm v12.1 y4.2.1).bind fun v13=>(ze v13 false y4.2.2).bind fun v14=>(bif (!v12.2.2) then (zA false v14.2).bind fun v15=>some (.inr (v15,true,y4.2.1)) else (qi v12.2.1 [59]).bind fun v16=>(Q2 v16.1).bind fun v17=>(bif (!v16.2.2) then some (.inr ([],false,y4.2.1)) else (bif (!v17.2) then some (.inr ([],false,y4.2.1)) else (ze v17.1 false v14.2).bind fun v18=>some (.inl (Sum.inr (v16.2.1,y4.2.1,v18.2)))))))) y4
noncomputable def zaK (u1:Str)(u2:(List Str)):Option (Str×Bool):=
 ((utf_Text u1).bind fun v1=>(bif (!v1) then some true else (qq u1 [60]).bind fun v2=>some v2):Option (Bool)).bind (fun (q3:Bool)=>(bif q3 then some ([],false) else (iter (qf u1 u2) (Sum.inl ())).bind (fun (q19:Str×Bool×Str)=>some (q19.1,q19.2.1))))
noncomputable def chars_Value (s:Str):Option (Str×Bool):=
 (ZJ [[9],[32],[10],[32],[13],[32]]).bind fun v1=>(zaK s v1).bind fun v2=>some (v2.1,v2.2)
noncomputable def zad (s:Str)(c:UInt8):Option Int:=
 some (indexByte s c)
noncomputable def zai (s:Str)(c:UInt8):Option Int:=
 (zad s c).bind fun v1=>some v1
noncomputable def name_Trim_b1 (y1:Str):Option (Str⊕Str):=
 (bif (!(y1==[])) then (at' y1 0).bind fun v2=>(QE v2).bind fun v3=>(bif v3 then (sub' y1 1 (y1.length:Int)).bind fun v4=>some (.inl v4) else some (.inr y1)) else some (.inr y1))
noncomputable def name_Trim_b2 (y6:Str):Option (Str⊕Str):=
 (bif (!(y6==[])) then (at' y6 (w64 ((y6.length:Int)-1))).bind fun v7=>(QE v7).bind fun v8=>(bif v8 then (sub' y6 0 (w64 ((y6.length:Int)-1))).bind fun v9=>some (.inl v9) else some (.inr y6)) else some (.inr y6))
noncomputable def name_Trim (s:Str):Option Str:=
 (iter (name_Trim_b1) s).bind (fun (q5:Str)=>(iter (name_Trim_b2) q5).bind (fun (q10:Str)=>some q10))
noncomputable def zaA (x:Str):Option Str:=
 some x
noncomputable def Jf (s:Str):Option (Str×Bool):=
 (qq s [93,93,62]).bind fun v1=>(bif v1 then some ([],false) else (chars_expand s (fun x0=>zaA x0)).bind fun v2=>some (v2.1,v2.2))
noncomputable def doc_bare (x:zf):Option Bool:=
 (bif (x.Prefix==[]) then (bif (x.URI==[]) then (bif ((x.Decls.length:Int)==0) then some ((x.Attrs.length:Int)==0) else some false) else some false) else some false)
noncomputable def ZZ (l:(List zf))(n:Int)(y1:Int):Option (Int⊕(Bool⊕Unit)):=
 (bif (decide (y1≥0)) then (at' l n).bind fun v2=>(bif (y1==v2.Parent) then (at' l y1).bind fun v3=>(bif (v3.Kind==0) then some (.inr (Sum.inl true)) else (at' l y1).bind fun v4=>some (.inr (Sum.inl (v4.Kind==1)))) else (at' l y1).bind fun v5=>some (.inl v5.Parent)) else some (.inr (Sum.inr ())))
noncomputable def zaR (l:(List zf))(n:Int):Option Bool:=
 (iter (ZZ l n) (w64 (n-1))).bind (Sum.elim (fun (q6:Bool)=>some q6) (fun (q7:Unit)=>some false))
noncomputable def zaN (o:zb)(p1:zb):Option Bool:=
 some (o.Prefix==p1.Prefix)
noncomputable def qb (s:(List zb))(f:(zb→Option Bool))(y1:Int):Option (Int⊕(Int⊕Unit)):=
 (bif (decide (y1<(s.length:Int))) then (at' s y1).bind fun v2=>(f v2).bind fun v3=>(bif v3 then some (.inr (Sum.inl y1)) else some (.inl (w64 (y1+1)))) else some (.inr (Sum.inr ())))
noncomputable def QO (s:(List zb))(f:(zb→Option Bool)):Option Int:=
 (iter (qb s f) 0).bind (Sum.elim (fun (q4:Int)=>some q4) (fun (q5:Unit)=>some (-1)))
noncomputable def Zh (s:(List zb))(f:(zb→Option Bool)):Option Bool:=
 (QO s f).bind fun v1=>some (decide (v1≥0))
noncomputable def zaj (s:Str):Option Bool:=
 (bif (s==[]) then some true else (JU s).bind fun v1=>some v1)
noncomputable def J6 (s:Str):Option Bool:=
 (utf_Text s).bind fun v1=>some v1
noncomputable def Qf (l:(List zb))(y1:Int):Option (Int⊕(Unit⊕Unit)):=
 (bif (decide (y1<(l.length:Int))) then (at' l y1).bind fun v2=>(sub' l 0 y1).bind fun v3=>(Zh v3 (fun x0=>zaN x0 v2)).bind fun v4=>(bif v4 then some (.inr (Sum.inl ())) else (zaj v2.Prefix).bind fun v5=>(bif (!v5) then some (.inr (Sum.inl ())) else (bif (v2.Prefix==[120,109,108,110,115]) then some (.inr (Sum.inl ())) else (J6 v2.URI).bind fun v6=>(bif (!v6) then some (.inr (Sum.inl ())) else (bif (v2.URI==[]) then (bif (!(v2.Prefix==[])) then some (.inr (Sum.inl ())) else (bif (!((v2.Prefix==[120,109,108])==(v2.URI==[104,116,116,112,58,47,47,119,119,119,46,119,51,46,111,114,103,47,88,77,76,47,49,57,57,56,47,110,97,109,101,115,112,97,99,101]))) then some (.inr (Sum.inl ())) else (bif (v2.URI==[104,116,116,112,58,47,47,119,119,119,46,119,51,46,111,114,103,47,50,48,48,48,47,120,109,108,110,115,47]) then some (.inr (Sum.inl ())) else some (.inl (w64 (y1+1)))))) else (bif (!((v2.Prefix==[120,109,108])==(v2.URI==[104,116,116,112,58,47,47,119,119,119,46,119,51,46,111,114,103,47,88,77,76,47,49,57,57,56,47,110,97,109,101,115,112,97,99,101]))) then some (.inr (Sum.inl ())) else (bif (v2.URI==[104,116,116,112,58,47,47,119,119,119,46,119,51,46,111,114,103,47,50,48,48,48,47,120,109,108,110,115,47]) then some (.inr (Sum.inl ())) else some (.inl (w64 (y1+1)))))))))) else some (.inr (Sum.inr ())))
noncomputable def doc_declared (l:(List zb)):Option Bool:=
 (iter (Qf l) 0).bind (Sum.elim (fun (q7:Unit)=>some false) (fun (q8:Unit)=>some true))
noncomputable def doc_means_b2 (p:Str)(v2:zf)(y3:Int):Option (Int⊕(Str⊕Unit)):=
 (bif (decide (y3<(v2.Decls.length:Int))) then (at' v2.Decls y3).bind fun v4=>(bif (v4.Prefix==p) then some (.inr (Sum.inl v4.URI)) else some (.inl (w64 (y3+1)))) else some (.inr (Sum.inr ())))
noncomputable def doc_means_b1 (l:(List zf))(p:Str)(y1:Int):Option (Int⊕(Str⊕Unit)):=
 (bif (decide (y1>0)) then (at' l y1).bind fun v2=>(iter (doc_means_b2 p v2) 0).bind (Sum.elim (fun (q5:Str)=>some (.inr (Sum.inl q5))) (fun (q6:Unit)=>(at' l y1).bind fun v7=>some (.inl v7.Parent))) else some (.inr (Sum.inr ())))
noncomputable def doc_means (l:(List zf))(n:Int)(p:Str):Option (Str×Bool):=
 (bif (p==[120,109,108]) then some ([104,116,116,112,58,47,47,119,119,119,46,119,51,46,111,114,103,47,88,77,76,47,49,57,57,56,47,110,97,109,101,115,112,97,99,101],true) else (iter (doc_means_b1 l p) n).bind (Sum.elim (fun (q8:Str)=>some (q8,true)) (fun (q9:Unit)=>some ([],(p==[])))))
noncomputable def zaw (o:zP)(p1:zP):Option Bool:=
 (bif (o.Local==p1.Local) then some (o.URI==p1.URI) else some false)
noncomputable def z7 (s:(List zP))(f:(zP→Option Bool))(y1:Int):Option (Int⊕(Int⊕Unit)):=
 (bif (decide (y1<(s.length:Int))) then (at' s y1).bind fun v2=>(f v2).bind fun v3=>(bif v3 then some (.inr (Sum.inl y1)) else some (.inl (w64 (y1+1)))) else some (.inr (Sum.inr ())))
noncomputable def QS (s:(List zP))(f:(zP→Option Bool)):Option Int:=
 (iter (z7 s f) 0).bind (Sum.elim (fun (q4:Int)=>some q4) (fun (q5:Unit)=>some (-1)))
noncomputable def qC (s:(List zP))(f:(zP→Option Bool)):Option Bool:=
 (QS s f).bind fun v1=>some (decide (v1≥0))
noncomputable def JV (l:(List zf))(n:Int)(v1:zf)(y6:Int):Option (Int⊕(Unit⊕Unit)):=
 (bif (decide (y6<(v1.Attrs.length:Int))) then (at' v1.Attrs y6).bind fun v7=>(doc_means l n v7.Prefix).bind fun v8=>(bif (v7.Prefix==[]) then (sub' v1.Attrs 0 y6).bind fun v9=>(qC v9 (fun x0=>zaw x0 v7)).bind fun v10=>(bif v10 then some (.inr (Sum.inl ())) else (bif (!v8.2) then some (.inr (Sum.inl ())) else (bif (!([]==v7.URI)) then some (.inr (Sum.inl ())) else (JU v7.Local).bind fun v11=>(bif (!v11) then some (.inr (Sum.inl ())) else (zaj v7.Prefix).bind fun v12=>(bif (!v12) then some (.inr (Sum.inl ())) else (bif (v7.Prefix==[120,109,108,110,115]) then some (.inr (Sum.inl ())) else (bif (v7.Prefix==[]) then (bif (v7.Local==[120,109,108,110,115]) then some (.inr (Sum.inl ())) else (J6 v7.Value).bind fun v13=>(bif (!v13) then some (.inr (Sum.inl ())) else some (.inl (w64 (y6+1))))) else (J6 v7.Value).bind fun v14=>(bif (!v14) then some (.inr (Sum.inl ())) else some (.inl (w64 (y6+1))))))))))) else (sub' v1.Attrs 0 y6).bind fun v15=>(qC v15 (fun x0=>zaw x0 v7)).bind fun v16=>(bif v16 then some (.inr (Sum.inl ())) else (bif (!v8.2) then some (.inr (Sum.inl ())) else (bif (!(v8.1==v7.URI)) then some (.inr (Sum.inl ())) else (JU v7.Local).bind fun v17=>(bif (!v17) then some (.inr (Sum.inl ())) else (zaj v7.Prefix).bind fun v18=>(bif (!v18) then some (.inr (Sum.inl ())) else (bif (v7.Prefix==[120,109,108,110,115]) then some (.inr (Sum.inl ())) else (bif (v7.Prefix==[]) then (bif (v7.Local==[120,109,108,110,115]) then some (.inr (Sum.inl ())) else (J6 v7.Value).bind fun v19=>(bif (!v19) then some (.inr (Sum.inl ())) else some (.inl (w64 (y6+1))))) else (J6 v7.Value).bind fun v20=>(bif (!v20) then some (.inr (Sum.inl ())) else some (.inl (w64 (y6+1)))))))))))) else some (.inr (Sum.inr ())))
noncomputable def doc_named (l:(List zf))(n:Int):Option Bool:=
 (at' l n).bind fun v1=>(doc_means l n v1.Prefix).bind fun v2=>((bif (!v2.2) then some true else (bif (!(v2.1==v1.URI)) then some true else (JU v1.Local).bind fun v3=>(bif (!v3) then some true else (zaj v1.Prefix).bind fun v4=>(bif (!v4) then some true else some (v1.Prefix==[120,109,108,110,115]))))):Option (Bool)).bind (fun (q5:Bool)=>(bif q5 then some false else (iter (JV l n v1) 0).bind (Sum.elim (fun (q21:Unit)=>some false) (fun (q22:Unit)=>some true))))
noncomputable def QQ (s:Str)(suffix:Str):Option Bool:=
 (bif (decide ((s.length:Int)≥(suffix.length:Int))) then (sub' s (w64 ((s.length:Int)-(suffix.length:Int))) (s.length:Int)).bind fun v1=>some (v1==suffix) else some false)
noncomputable def QZ (s:Str)(suffix:Str):Option Bool:=
 (QQ s suffix).bind fun v1=>some v1
noncomputable def zaU (s:Str):Option Bool:=
 (bif ((s.length:Int)==3) then (at' s 0).bind fun v1=>(bif ((v1.toNat:Int)==120) then (at' s 1).bind fun v2=>(bif ((v2.toNat:Int)==109) then (at' s 2).bind fun v3=>(bif ((v3.toNat:Int)==108) then some true else (at' s 2).bind fun v4=>some ((v4.toNat:Int)==76)) else (at' s 1).bind fun v5=>(bif ((v5.toNat:Int)==77) then (at' s 2).bind fun v6=>(bif ((v6.toNat:Int)==108) then some true else (at' s 2).bind fun v7=>some ((v7.toNat:Int)==76)) else some false)) else (at' s 0).bind fun v8=>(bif ((v8.toNat:Int)==88) then (at' s 1).bind fun v9=>(bif ((v9.toNat:Int)==109) then (at' s 2).bind fun v10=>(bif ((v10.toNat:Int)==108) then some true else (at' s 2).bind fun v11=>some ((v11.toNat:Int)==76)) else (at' s 1).bind fun v12=>(bif ((v12.toNat:Int)==77) then (at' s 2).bind fun v13=>(bif ((v13.toNat:Int)==108) then some true else (at' s 2).bind fun v14=>some ((v14.toNat:Int)==76)) else some false)) else some false)) else some false)
noncomputable def zaS (l:(List zf))(n:Int)(last:Int):Option Bool:=
 (at' l n).bind fun v1=>(bif (v1.Kind==1) then (bif (v1.Text==[]) then (doc_declared v1.Decls).bind fun v2=>(bif v2 then (doc_named l n).bind fun v3=>some v3 else some false) else some false) else (bif (v1.Kind==2) then (doc_bare v1).bind fun v4=>(bif v4 then (bif (v1.Local==[]) then (bif (!(v1.Text==[])) then (J6 v1.Text).bind fun v5=>(bif v5 then (bif (decide (last<0)) then some true else (at' l last).bind fun v6=>some (v6.Kind != 2)) else some false) else some false) else some false) else some false) else (bif (v1.Kind==3) then (doc_bare v1).bind fun v7=>(bif v7 then (bif (v1.Local==[]) then (J6 v1.Text).bind fun v8=>(bif v8 then (qq v1.Text [45,45]).bind fun v9=>(bif (!v9) then (QZ v1.Text [45]).bind fun v10=>some (!v10) else some false) else some false) else some false) else some false) else (bif (v1.Kind==4) then ((bif (!(v1.Text==[])) then (at' v1.Text 0).bind fun v11=>(QE v11).bind fun v12=>some v12 else some false):Option (Bool)).bind (fun (q13:Bool)=>(doc_bare v1).bind fun v14=>(bif v14 then (JU v1.Local).bind fun v15=>(bif v15 then (zaU v1.Local).bind fun v16=>(bif (!v16) then (J6 v1.Text).bind fun v17=>(bif v17 then (qq v1.Text [63,62]).bind fun v18=>(bif (!v18) then some (!q13) else some false) else some false) else some false) else some false) else some false)) else some false))))
noncomputable def doc_under (x:zf):Option Bool:=
 (bif (x.Parent != 0) then some true else some (x.Kind != 2))
noncomputable def Q3 (v8:(List Int))(y9:Int×(List Int)):Option ((Int×(List Int))⊕(List Int)):=
 (bif (decide (y9.1<(v8.length:Int))) then (at' y9.2 y9.1).bind fun v10=>(put y9.2 y9.1 (-1)).bind fun v11=>some (.inl ((w64 (y9.1+1)),v11)) else some (.inr y9.2))
noncomputable def zE (l:(List zf))(y13:Int×Int×(List Int)):Option ((Int×Int×(List Int))⊕(Unit⊕Int)):=
 (bif (decide (y13.2.1<(l.length:Int))) then ((zaR l y13.2.1).bind fun v14=>(bif (!v14) then some true else (at' l y13.2.1).bind fun v15=>(at' y13.2.2 v15.Parent).bind fun v16=>(zaS l y13.2.1 v16).bind fun v17=>(bif (!v17) then some true else (at' l y13.2.1).bind fun v18=>(doc_under v18).bind fun v19=>some (!v19))):Option (Bool)).bind (fun (q20:Bool)=>(bif q20 then some (.inr (Sum.inl ())) else (at' l y13.2.1).bind fun v21=>(bif (v21.Parent==0) then (at' l y13.2.1).bind fun v22=>(bif (v22.Kind==1) then (bif (decide (y13.1>0)) then some (.inr (Sum.inl ())) else (at' l y13.2.1).bind fun v23=>(at' y13.2.2 v23.Parent).bind fun v24=>(put y13.2.2 v23.Parent y13.2.1).bind fun v25=>some (.inl (y13.2.1,(w64 (y13.2.1+1)),v25))) else (at' l y13.2.1).bind fun v26=>(at' y13.2.2 v26.Parent).bind fun v27=>(put y13.2.2 v26.Parent y13.2.1).bind fun v28=>some (.inl (y13.1,(w64 (y13.2.1+1)),v28))) else (at' l y13.2.1).bind fun v29=>(at' y13.2.2 v29.Parent).bind fun v30=>(put y13.2.2 v29.Parent y13.2.1).bind fun v31=>some (.inl (y13.1,(w64 (y13.2.1+1)),v31))))) else some (.inr (Sum.inr y13.1)))
noncomputable def zaz (l:(List zf)):Option (Int×Bool):=
 ((bif ((l.length:Int)==0) then some true else (at' l 0).bind fun v1=>(bif (v1.Kind != 0) then some true else (at' l 0).bind fun v2=>(bif (v2.Parent != (-1)) then some true else (at' l 0).bind fun v3=>(doc_bare v3).bind fun v4=>(bif (!v4) then some true else (at' l 0).bind fun v5=>(bif (!(v5.Local==[])) then some true else (at' l 0).bind fun v6=>some (!(v6.Text==[]))))))):Option (Bool)).bind (fun (q7:Bool)=>(bif q7 then some (0,false) else (mk 8 (l.length:Int) 0).bind fun v8=>(iter (Q3 v8) (0,v8)).bind (fun (q12:(List Int))=>(iter (zE l) (0,1,q12)).bind (Sum.elim (fun (q32:Unit)=>some (0,false)) (fun (q33:Int)=>some (q33,(decide (q33>0))))))))
noncomputable def zK (l:(List zf))(y2:Int×(List Int)):Option ((Int×(List Int))⊕(Unit⊕Unit)):=
 (bif (decide (y2.1<(l.length:Int))) then (at' l y2.1).bind fun v3=>(bif (decide (y2.1>0)) then (at' y2.2 v3.Parent).bind fun v4=>(at' y2.2 y2.1).bind fun v5=>(put y2.2 y2.1 (w64 (v4+1))).bind fun v6=>(at' v6 y2.1).bind fun v7=>(bif (decide (v7>64)) then some (.inr (Sum.inl ())) else (bif (decide ((w64 ((v3.Decls.length:Int)+(v3.Attrs.length:Int)))>64)) then some (.inr (Sum.inl ())) else some (.inl ((w64 (y2.1+1)),v6)))) else (at' y2.2 y2.1).bind fun v8=>(bif (decide (v8>64)) then some (.inr (Sum.inl ())) else (bif (decide ((w64 ((v3.Decls.length:Int)+(v3.Attrs.length:Int)))>64)) then some (.inr (Sum.inl ())) else some (.inl ((w64 (y2.1+1)),y2.2))))) else some (.inr (Sum.inr ())))
noncomputable def zaT (l:(List zf)):Option Bool:=
 (bif (decide ((l.length:Int)>4000)) then some false else (mk 8 (l.length:Int) 0).bind fun v1=>(iter (zK l) (0,v1)).bind (Sum.elim (fun (q9:Unit)=>some false) (fun (q10:Unit)=>some true)))
noncomputable def Qa (s:(List zb)):Option (List zb):=
 (app 32 [] s).bind fun v2=>some v2
noncomputable def zah (s:(List zP)):Option (List zP):=
 (app 64 [] s).bind fun v2=>some v2
noncomputable def doc_clone (x:zf):Option (Int×Int×Str×Str×Str×Str×(List zb)×(List zP)):=
 (Qa x.Decls).bind fun v1=>(zah x.Attrs).bind fun v2=>some (x.Kind,x.Parent,x.Prefix,x.Local,x.URI,x.Text,v1,v2)
noncomputable def za1 (l:(List zf))(y4:Int×(List zf)):Option ((Int×(List zf))⊕(List zf)):=
 (bif (decide (y4.1<(l.length:Int))) then (at' l y4.1).bind fun v5=>(doc_clone v5).bind fun v6=>(app 128 y4.2 [(zf.mk v6.1 v6.2.1 v6.2.2.1 v6.2.2.2.1 v6.2.2.2.2.1 v6.2.2.2.2.2.1 v6.2.2.2.2.2.2.1 v6.2.2.2.2.2.2.2)]).bind fun v7=>some (.inl ((w64 (y4.1+1)),v7)) else some (.inr y4.2))
noncomputable def za3 (l:(List zf))(y9:Int×(List Int)):Option ((Int×(List Int))⊕(List Int)):=
 (bif (decide (y9.1≥0)) then (at' y9.2 y9.1).bind fun v10=>(at' y9.2 y9.1).bind fun v11=>(put y9.2 y9.1 (mx v10 (w64 (y9.1+1)))).bind fun v12=>(at' l y9.1).bind fun v13=>(bif (decide (v13.Parent≥0)) then (at' v12 v13.Parent).bind fun v14=>(at' v12 y9.1).bind fun v15=>(at' v12 v13.Parent).bind fun v16=>(put v12 v13.Parent (mx v14 v15)).bind fun v17=>some (.inl ((w64 (y9.1-1)),v17)) else some (.inl ((w64 (y9.1-1)),v12))) else some (.inr y9.2))
noncomputable def doc_Of (l:(List zf)):Option ((Option qg)×Int):=
 (zaz l).bind fun v1=>(bif (!v1.2) then some (none,2) else (zaT l).bind fun v2=>(bif (!v2) then some (none,3) else (mk 8 (l.length:Int) 0).bind fun v3=>(iter (za1 l) (0,[])).bind (fun (q8:(List zf))=>(iter (za3 l) ((w64 ((l.length:Int)-1)),v3)).bind (fun (q18:(List Int))=>some ((some (qg.mk q8 q18 v1.1)),0)))))
noncomputable def zY (u1:Str)(y1:Int):Option (Int⊕Int):=
 (bif (decide (y1<(u1.length:Int))) then (at' u1 y1).bind fun v2=>(QE v2).bind fun v3=>(bif v3 then some (.inl (w64 (y1+1))) else some (.inr y1)) else some (.inr y1))
noncomputable def zD (u1:Str)(u2:Bool)(u3:Bool)(u4:(List zf))(u5:(List zv))(u6:Str):Option (Bool×Str):=
 (iter (zY u1) 0).bind (fun (q4:Int)=>(sub' u1 q4 (u1.length:Int)).bind fun v5=>some ((decide (q4>0)),v5))
noncomputable def zz (u1:Str)(u2:Str)(u3:Bool)(u4:Bool)(u5:(List zf))(u6:(List zv))(u7:Str):Option (Bool×Str):=
 (ZL u2 u1).bind fun v1=>(bif v1.2 then some (v1.2,v1.1) else some (v1.2,u2))
noncomputable def qo (u1:Str)(u2:Str)(u3:Bool)(u4:Bool)(u5:(List zf))(u6:(List zv))(u7:Str):Option (Str×Bool×Str):=
 (qi u2 u1).bind fun v1=>(bif v1.2.2 then some (v1.1,v1.2.2,v1.2.1) else some (v1.1,v1.2.2,u2))
noncomputable def qy (u1:Str)(u2:Bool)(u3:Bool)(u4:(List zf))(u5:(List zv))(u6:Str):Option (Str×Bool×Str):=
 (zD u1 u2 u3 u4 u5 u6).bind fun v1=>(zz [61] v1.2 u2 u3 u4 u5 u6).bind fun v2=>(bif (!v2.1) then some ([],false,v2.2) else (zD v2.2 u2 u3 u4 u5 u6).bind fun v3=>((bif (v3.2==[]) then some true else (sub' v3.2 0 1).bind fun v4=>(qq [39,34] v4).bind fun v5=>some (!v5)):Option (Bool)).bind (fun (q6:Bool)=>(bif q6 then some ([],false,v3.2) else (sub' v3.2 0 1).bind fun v7=>(sub' v3.2 1 (v3.2.length:Int)).bind fun v8=>(qo v7 v8 u2 u3 u4 u5 u6).bind fun v9=>some (v9.1,v9.2.1,v9.2.2))))
noncomputable def zX (u8:(List Str))(v4:Str×Bool×Str)(y5:Int):Option (Int⊕(Unit⊕Unit)):=
 (bif (decide (y5<(u8.length:Int))) then (at' u8 y5).bind fun v6=>(bif v4.2.1 then (bif (v4.1==v6) then some (.inr (Sum.inl ())) else some (.inl (w64 (y5+1)))) else some (.inl (w64 (y5+1)))) else some (.inr (Sum.inr ())))
noncomputable def Zu (u1:Str)(u2:Str)(u3:Bool)(u4:Bool)(u5:(List zf))(u6:(List zv))(u7:Str)(u8:(List Str)):Option (Bool×Str):=
 ((zD u2 u3 u4 u5 u6 u7).bind fun v1=>(bif (!v1.1) then some (true,v1.2) else (zz u1 v1.2 u3 u4 u5 u6 u7).bind fun v2=>some ((!v2.1),v2.2)):Option ((Bool×Str))).bind (fun (q3:Bool×Str)=>(bif q3.1 then some (true,u2) else (qy q3.2 u3 u4 u5 u6 u7).bind fun v4=>(iter (zX u8 v4) 0).bind (Sum.elim (fun (q7:Unit)=>some (true,v4.2.2)) (fun (q8:Unit)=>some (false,v4.2.2)))))
noncomputable def Zi (u1:Str)(u2:Bool)(u3:Bool)(u4:(List zf))(u5:(List zv))(u6:Str):Option (Bool×Str):=
 ((zD u1 u2 u3 u4 u5 u6).bind fun v1=>(bif (!v1.1) then some (true,v1.2) else (zz [101,110,99,111,100,105,110,103] v1.2 u2 u3 u4 u5 u6).bind fun v2=>some ((!v2.1),v2.2)):Option ((Bool×Str))).bind (fun (q3:Bool×Str)=>(bif q3.1 then some (true,u1) else (qy q3.2 u2 u3 u4 u5 u6).bind fun v4=>(bif v4.2.1 then (parse_fold v4.1).bind fun v5=>some ((v5==[117,116,102,45,56]),v4.2.2) else some (false,v4.2.2))))
noncomputable def qK (u1:Str)(u2:Bool)(u3:Bool)(u4:(List zf))(u5:(List zv))(u6:Str):Option (Bool×Str):=
 ((bif (decide ((u1.length:Int)<6)) then some true else (sub' u1 0 5).bind fun v1=>(bif (!(v1==[60,63,120,109,108])) then some true else (at' u1 5).bind fun v2=>(QE v2).bind fun v3=>some (!v3))):Option (Bool)).bind (fun (q4:Bool)=>(bif q4 then some (true,u1) else (sub' u1 5 (u1.length:Int)).bind fun v5=>(zD v5 u2 u3 u4 u5 u6).bind fun v6=>(Qb v6.2 [118,101,114,115,105,111,110]).bind fun v7=>(bif (!v7) then some (false,v6.2) else (Zu [118,101,114,115,105,111,110] v5 u2 u3 u4 u5 u6 [[49,46,48]]).bind fun v8=>(bif (!v8.1) then some (false,v8.2) else (Zi v8.2 u2 u3 u4 u5 u6).bind fun v9=>(bif (!v9.1) then some (false,v9.2) else (Zu [115,116,97,110,100,97,108,111,110,101] v9.2 u2 u3 u4 u5 u6 [[121,101,115],[110,111]]).bind fun v10=>(bif (!v10.1) then some (false,v10.2) else (zD v10.2 u2 u3 u4 u5 u6).bind fun v11=>(zz [63,62] v11.2 u2 u3 u4 u5 u6).bind fun v12=>some (v12.1,v12.2)))))))
noncomputable def Qy (u1:Str)(u2:Bool)(u3:Bool)(u4:(List zf))(u5:(List zv))(u6:Str):Option Int:=
 some (u6.length:Int)
noncomputable def qx (u1:Str)(u2:Bool)(u3:Bool)(u4:(List zf))(u5:(List zv))(u6:Str):Option Int:=
 (bif ((u5.length:Int)==0) then some 0 else (at' u5 (w64 ((u5.length:Int)-1))).bind fun v1=>some v1.n)
noncomputable def ZR (u1:Str)(u2:Bool)(u3:Bool)(u4:(List zf))(u5:(List zv))(u6:Str):Option Str:=
 (unsf u6).bind fun v1=>some v1
noncomputable def Z0 (u1:Str)(u2:Bool)(u3:Bool)(u4:(List zf))(u5:(List zv)):Option Unit:=
 some ()
noncomputable def qF (u1:Str)(u2:Bool)(u3:Bool)(u4:(List zf))(u5:(List zv))(u6:Str):Option (Bool×(List zf)×Str):=
 (Qy u1 u2 u3 u4 u5 u6).bind fun v1=>(bif (decide (v1>0)) then ((qx u1 u2 u3 u4 u5 u6).bind fun v2=>(ZR u1 u2 u3 u4 u5 u6).bind fun v3=>(app 128 u4 [(zf.mk 2 v2 [] [] [] v3 [] [])]).bind fun v4=>some v4:Option ((List zf))).bind (fun (q5:(List zf))=>(Z0 u1 u2 u3 q5 u5).bind fun v6=>some (true,q5,[])) else some (u2,u4,u6))
noncomputable def Zb (u1:Int)(u2:Int)(u3:Str)(u4:Str)(u5:Str)(u6:Str)(u7:Str)(u8:Bool)(u9:Bool)(u10:(List zf))(u11:(List zv))(u12:Str):Option (Bool×(List zf)×Str):=
 (qF u7 u8 u9 u10 u11 u12).bind fun v1=>(qx u7 v1.1 u9 v1.2.1 u11 v1.2.2).bind fun v2=>(app 128 v1.2.1 [(zf.mk u1 v2 u3 u4 u5 u6 [] [])]).bind fun v3=>some (v1.1,v3,v1.2.2)
noncomputable def Zq (u1:Str)(u2:Bool)(u3:Bool)(u4:(List zf))(u5:(List zv))(u6:Str):Option Unit:=
 (bif u2 then some () else some ())
noncomputable def zM (u1:Str)(u2:Str)(u3:Bool)(u4:Bool)(u5:(List zf))(u6:(List zv))(u7:Str):Option (Int×Str):=
 (Zq u2 u3 u4 u5 u6 u7).bind fun v1=>(app 1 u7 u1).bind fun v2=>some ((u1.length:Int),v2)
noncomputable def zL (u1:Str)(y1:Int×Nat):Option ((Int×Nat)⊕Int):=
 (bif (decide (y1.2<u1.length)) then (bif (((dec u1 y1.2).1:Int) != 58) then (zaY ((dec u1 y1.2).1:Int)).bind fun v2=>(bif (!v2) then some (.inr y1.1) else some (.inl ((w64 ((y1.2:Int)+((enc ((dec u1 y1.2).1:Int)).length:Int))),(y1.2+(dec u1 y1.2).2)))) else some (.inl ((w64 ((y1.2:Int)+((enc ((dec u1 y1.2).1:Int)).length:Int))),(y1.2+(dec u1 y1.2).2)))) else some (.inr y1.1))
noncomputable def qu (u1:Str)(u2:Bool)(u3:Bool)(u4:(List zf))(u5:(List zv))(u6:Str):Option (Str×Str):=
 (iter (zL u1) (0,0)).bind (fun (q3:Int)=>(sub' u1 0 q3).bind fun v4=>(sub' u1 q3 (u1.length:Int)).bind fun v5=>some (v4,v5))
noncomputable def qM (u1:Str)(u2:Bool)(u3:Bool)(u4:(List zf))(u5:(List zv))(u6:Str):Option (Bool×Str×Bool×(List zf)×Str):=
 (qu u1 u2 u3 u4 u5 u6).bind fun v1=>(zD v1.2 u2 u3 u4 u5 u6).bind fun v2=>(qo [63,62] v2.2 u2 u3 u4 u5 u6).bind fun v3=>(bif (!v3.2.1) then some (false,v3.2.2,u2,u4,u6) else (bif (!v2.1) then (bif (!(v3.1==[])) then some (false,v3.2.2,u2,u4,u6) else (Zb 4 0 [] v1.1 [] v3.1 v3.2.2 u2 u3 u4 u5 u6).bind fun v4=>some (true,v3.2.2,v4.1,v4.2.1,v4.2.2)) else (Zb 4 0 [] v1.1 [] v3.1 v3.2.2 u2 u3 u4 u5 u6).bind fun v5=>some (true,v3.2.2,v5.1,v5.2.1,v5.2.2)))
noncomputable def ZH (u1:Str)(u2:Bool)(u3:Bool)(u4:(List zf))(u5:(List zv))(u6:Str):Option (Bool×Str×Bool×(List zf)×(List zv)×Str):=
 ((bif (decide ((w64 ((u5.length:Int)-1))<0)) then some (true,u1) else (qu u1 u2 u3 u4 u5 u6).bind fun v1=>(at' u5 (w64 ((u5.length:Int)-1))).bind fun v2=>some ((!(v1.1==v2.name)),v1.2)):Option ((Bool×Str))).bind (fun (q3:Bool×Str)=>(bif q3.1 then some (false,q3.2,u2,u4,u5,u6) else (zD q3.2 u2 u3 u4 u5 u6).bind fun v4=>(zz [62] v4.2 u2 u3 u4 u5 u6).bind fun v5=>(bif (!v5.1) then some (false,v5.2,u2,u4,u5,u6) else (qF v5.2 u2 u3 u4 u5 u6).bind fun v6=>(rng (u5.length:Int) 0 (w64 ((u5.length:Int)-1))).bind fun _=>(prt u5 0 ((w64 ((u5.length:Int)-1)).toNat)).bind fun v7=>some (true,v5.2,v6.1,v6.2.1,v7,v6.2.2))))
noncomputable def qR (u1:Str)(u2:Bool)(u3:Bool)(u4:(List zf))(u5:(List zv))(u6:Str)(u7:Int)(u8:Int)(u9:Str)(u10:Str)(u11:Str)(u12:Str)(u13:(List zb))(u14:(List zP)):Option (Bool×Str×(List zb)×(List zP)):=
 (qu u1 u2 u3 u4 u5 u6).bind fun v1=>(name_Split v1.1).bind fun v2=>(qy v1.2 u2 u3 u4 u5 u6).bind fun v3=>(chars_Value v3.1).bind fun v4=>((bif (!v2.2.2) then some true else (bif (!v3.2.1) then some true else some (!v4.2))):Option (Bool)).bind (fun (q5:Bool)=>(bif q5 then some (false,v3.2.2,u13,u14) else (bif (v2.1==[120,109,108,110,115]) then (app 32 u13 [(zb.mk v2.2.1 v4.1)]).bind fun v6=>some (true,v3.2.2,v6,u14) else ((bif (v2.1==[]) then some (v2.2.1==[120,109,108,110,115]) else some false):Option (Bool)).bind (fun (q7:Bool)=>(bif q7 then (app 32 u13 [(zb.mk [] v4.1)]).bind fun v8=>some (true,v3.2.2,v8,u14) else (app 64 u14 [(zP.mk v2.1 v2.2.1 [] v4.1)]).bind fun v9=>some (true,v3.2.2,u13,v9))))))
noncomputable def Ja (u1:Str)(v3:zf)(y4:Int):Option (Int⊕(Str⊕Unit)):=
 (bif (decide (y4<(v3.Decls.length:Int))) then (at' v3.Decls y4).bind fun v5=>(bif (v5.Prefix==u1) then some (.inr (Sum.inl v5.URI)) else some (.inl (w64 (y4+1)))) else some (.inr (Sum.inr ())))
noncomputable def z8 (u1:Str)(u8:(List zb))(y8:Int):Option (Int⊕(Str⊕Unit)):=
 (bif (decide (y8<(u8.length:Int))) then (at' u8 y8).bind fun v9=>(bif (v9.Prefix==u1) then some (.inr (Sum.inl v9.URI)) else some (.inl (w64 (y8+1)))) else some (.inr (Sum.inr ())))
noncomputable def qa (u1:Str)(u5:(List zf))(u6:(List zv))(u8:(List zb))(y1:Int):Option (Int⊕(Str⊕Unit)):=
 (bif (decide (y1≥0)) then (bif (decide (y1<(u6.length:Int))) then (at' u6 y1).bind fun v2=>(at' u5 v2.n).bind fun v3=>(iter (Ja u1 v3) 0).bind (Sum.elim (fun (q6:Str)=>some (.inr (Sum.inl q6))) (fun (q7:Unit)=>some (.inl (w64 (y1-1))))) else (iter (z8 u1 u8) 0).bind (Sum.elim (fun (q10:Str)=>some (.inr (Sum.inl q10))) (fun (q11:Unit)=>some (.inl (w64 (y1-1)))))) else some (.inr (Sum.inr ())))
noncomputable def Zf (u1:Str)(u2:Str)(u3:Bool)(u4:Bool)(u5:(List zf))(u6:(List zv))(u7:Str)(u8:(List zb)):Option Str:=
 (bif (u1==[120,109,108]) then some [104,116,116,112,58,47,47,119,119,119,46,119,51,46,111,114,103,47,88,77,76,47,49,57,57,56,47,110,97,109,101,115,112,97,99,101] else (iter (qa u1 u5 u6 u8) (u6.length:Int)).bind (Sum.elim (fun (q12:Str)=>some q12) (fun (q13:Unit)=>some [])))
noncomputable def Qr (u1:Int)(u2:Int)(u3:Str)(u4:Str)(u5:Str)(u6:Str)(u7:Str)(u8:Bool)(u9:Bool)(u10:(List zf))(u11:(List zv))(u12:Str)(u13:(List zb))(u14:(List zP)):Option (Bool×(List zf)×Str):=
 (qF u7 u8 u9 u10 u11 u12).bind fun v1=>(qx u7 v1.1 u9 v1.2.1 u11 v1.2.2).bind fun v2=>(app 128 v1.2.1 [(zf.mk u1 v2 u3 u4 u5 u6 u13 u14)]).bind fun v3=>some (v1.1,v3,v1.2.2)
noncomputable def qk (u9:Str)(u10:Bool)(u11:Bool)(u12:(List zf))(u13:(List zv))(u14:Str)(u15:(List zb))(u16:(List zP))(y2:Int×(List zP)):Option ((Int×(List zP))⊕(List zP)):=
 (bif (decide (y2.1<(u16.length:Int))) then (at' y2.2 y2.1).bind fun v3=>(bif (!(v3.Prefix==[])) then (Zf v3.Prefix u9 u10 u11 u12 u13 u14 u15).bind fun v4=>(at' y2.2 y2.1).bind fun v5=>(put y2.2 y2.1 (zP.mk v5.Prefix v5.Local v4 v5.Value)).bind fun v6=>some (.inl ((w64 (y2.1+1)),v6)) else some (.inl ((w64 (y2.1+1)),y2.2))) else some (.inr y2.2))
noncomputable def qn (u1:Int)(u2:Int)(u3:Str)(u4:Str)(u5:Str)(u6:Str)(u7:Str)(u8:Bool)(u9:Str)(u10:Bool)(u11:Bool)(u12:(List zf))(u13:(List zv))(u14:Str)(u15:(List zb))(u16:(List zP)):Option (Bool×(List zf)×(List zv)×Str):=
 (Zf u3 u9 u10 u11 u12 u13 u14 u15).bind fun v1=>(iter (qk u9 u10 u11 u12 u13 u14 u15 u16) (0,u16)).bind (fun (q7:(List zP))=>(Qr u1 u2 u3 u4 v1 u6 u9 u10 u11 u12 u13 u14 u15 q7).bind fun v8=>(bif (!u8) then (app 24 u13 [(zv.mk (w64 ((v8.2.1.length:Int)-1)) u7)]).bind fun v9=>some (v8.1,v8.2.1,v9,v8.2.2) else some (v8.1,v8.2.1,u13,v8.2.2)))
noncomputable def qc (u2:Bool)(u3:Bool)(u4:(List zf))(u5:(List zv))(u6:Str)(v1:Str×Str)(v2:Str×Str×Bool)(y3:Str×(List zb)×(List zP)):Option ((Str×(List zb)×(List zP))⊕(Bool×Str×Bool×(List zf)×(List zv)×Str)):=
 (zD y3.1 u2 u3 u4 u5 u6).bind fun v4=>(zz [62] v4.2 u2 u3 u4 u5 u6).bind fun v5=>(bif (!v5.1) then (zz [47,62] v5.2 u2 u3 u4 u5 u6).bind fun v6=>(bif v5.1 then (qn 1 0 v2.1 v2.2.1 [] [] v1.1 v6.1 v6.2 u2 u3 u4 u5 u6 y3.2.1 y3.2.2).bind fun v7=>some (.inr (true,v6.2,v7.1,v7.2.1,v7.2.2.1,v7.2.2.2)) else (bif v6.1 then (qn 1 0 v2.1 v2.2.1 [] [] v1.1 v6.1 v6.2 u2 u3 u4 u5 u6 y3.2.1 y3.2.2).bind fun v8=>some (.inr (true,v6.2,v8.1,v8.2.1,v8.2.2.1,v8.2.2.2)) else (bif (!v4.1) then some (.inr (false,v6.2,u2,u4,u5,u6)) else (qR v6.2 u2 u3 u4 u5 u6 1 0 v2.1 v2.2.1 [] [] y3.2.1 y3.2.2).bind fun v9=>(bif (!v9.1) then some (.inr (false,v9.2.1,u2,u4,u5,u6)) else some (.inl (v9.2.1,v9.2.2.1,v9.2.2.2)))))) else (bif v5.1 then (qn 1 0 v2.1 v2.2.1 [] [] v1.1 false v5.2 u2 u3 u4 u5 u6 y3.2.1 y3.2.2).bind fun v10=>some (.inr (true,v5.2,v10.1,v10.2.1,v10.2.2.1,v10.2.2.2)) else (bif (!v4.1) then some (.inr (false,v5.2,u2,u4,u5,u6)) else (qR v5.2 u2 u3 u4 u5 u6 1 0 v2.1 v2.2.1 [] [] y3.2.1 y3.2.2).bind fun v11=>(bif (!v11.1) then some (.inr (false,v11.2.1,u2,u4,u5,u6)) else some (.inl (v11.2.1,v11.2.2.1,v11.2.2.2))))))
noncomputable def ZS (u1:Str)(u2:Bool)(u3:Bool)(u4:(List zf))(u5:(List zv))(u6:Str):Option (Bool×Str×Bool×(List zf)×(List zv)×Str):=
 (qu u1 u2 u3 u4 u5 u6).bind fun v1=>(name_Split v1.1).bind fun v2=>(bif (!v2.2.2) then some (false,v1.2,u2,u4,u5,u6) else (iter (qc u2 u3 u4 u5 u6 v1 v2) (v1.2,[],[])).bind (fun (q12:Bool×Str×Bool×(List zf)×(List zv)×Str)=>some (q12.1,q12.2.1,q12.2.2.1,q12.2.2.2.1,q12.2.2.2.2.1,q12.2.2.2.2.2)))
noncomputable def Zy (u1:Str)(u2:Bool)(u3:Bool)(u4:(List zf))(u5:(List zv))(u6:Str):Option (Bool×Str×Bool×Str):=
 (zai u1 60).bind fun v1=>(bif (decide (v1<0)) then (sub' u1 0 (u1.length:Int)).bind fun v2=>(sub' u1 (u1.length:Int) (u1.length:Int)).bind fun v3=>(bif ((u5.length:Int)==0) then (name_Trim v2).bind fun v4=>some ((v4==[]),v3,u2,u6) else (Jf v2).bind fun v5=>(zM v5.1 v3 u2 u3 u4 u5 u6).bind fun v6=>some (v5.2,v3,false,v6.2)) else (sub' u1 0 v1).bind fun v7=>(sub' u1 v1 (u1.length:Int)).bind fun v8=>(bif ((u5.length:Int)==0) then (name_Trim v7).bind fun v9=>some ((v9==[]),v8,u2,u6) else (Jf v7).bind fun v10=>(zM v10.1 v8 u2 u3 u4 u5 u6).bind fun v11=>some (v10.2,v8,false,v11.2)))
noncomputable def Z4 (u1:Str)(u2:Bool)(u3:Bool)(u4:(List zf))(u5:(List zv))(u6:Str):Option (Bool×Str×Bool×(List zf)×(List zv)×Str):=
 (zz [60,33,45,45] u1 u2 u3 u4 u5 u6).bind fun v1=>(bif v1.1 then (qo [45,45,62] v1.2 u2 u3 u4 u5 u6).bind fun v2=>(Zb 3 0 [] [] [] v2.1 v2.2.2 u2 u3 u4 u5 u6).bind fun v3=>some (v2.2.1,v2.2.2,v3.1,v3.2.1,u5,v3.2.2) else ((bif (decide ((u5.length:Int)>0)) then (zz [60,33,91,67,68,65,84,65,91] v1.2 u2 u3 u4 u5 u6).bind fun v4=>some (v4.1,v4.2) else some (false,v1.2)):Option ((Bool×Str))).bind (fun (q5:Bool×Str)=>(bif q5.1 then (qo [93,93,62] q5.2 u2 u3 u4 u5 u6).bind fun v6=>(zM v6.1 v6.2.2 u2 u3 u4 u5 u6).bind fun v7=>some (v6.2.1,v6.2.2,false,u4,u5,v7.2) else (zz [60,63] q5.2 u2 u3 u4 u5 u6).bind fun v8=>(bif v8.1 then (qM v8.2 u2 u3 u4 u5 u6).bind fun v9=>some (v9.1,v9.2.1,v9.2.2.1,v9.2.2.2.1,u5,v9.2.2.2.2) else (zz [60,47] v8.2 u2 u3 u4 u5 u6).bind fun v10=>(bif v10.1 then (ZH v10.2 u2 u3 u4 u5 u6).bind fun v11=>some (v11.1,v11.2.1,v11.2.2.1,v11.2.2.2.1,v11.2.2.2.2.1,v11.2.2.2.2.2) else (zz [60] v10.2 u2 u3 u4 u5 u6).bind fun v12=>(bif v12.1 then (ZS v12.2 u2 u3 u4 u5 u6).bind fun v13=>some (v13.1,v13.2.1,v13.2.2.1,v13.2.2.2.1,v13.2.2.2.2.1,v13.2.2.2.2.2) else (Zy v12.2 u2 u3 u4 u5 u6).bind fun v14=>some (v14.1,v14.2.1,v14.2.2.1,u4,u5,v14.2.2.2)))))))
noncomputable def zan (y4:Str×Bool×(List zf)×(List zv)×Str):Option ((Str×Bool×(List zf)×(List zv)×Str)⊕(Unit⊕(Str×Bool×(List zf)×(List zv)×Str))):=
 (bif (!(y4.1==[])) then (Z4 y4.1 y4.2.1 false y4.2.2.1 y4.2.2.2.1 y4.2.2.2.2).bind fun v5=>(bif (!v5.1) then some (.inr (Sum.inl ())) else some (.inl (v5.2.1,v5.2.2.1,v5.2.2.2.1,v5.2.2.2.2.1,v5.2.2.2.2.2))) else some (.inr (Sum.inr (y4.1,y4.2.1,y4.2.2.1,y4.2.2.2.1,y4.2.2.2.2))))
noncomputable def JI (b:Str):Option ((Option qg)×Int):=
 (bif (decide ((b.length:Int)>65536)) then some (none,3) else (utf_Text b).bind fun v1=>(bif (!v1) then some (none,2) else (chars_Lines b).bind fun v2=>(qK v2 true false [(zf.mk 0 (-1) [] [] [] [] [] [])] [] []).bind fun v3=>(bif (!v3.1) then some (none,2) else (iter (zan) (v3.2,true,[(zf.mk 0 (-1) [] [] [] [] [] [])],[],[])).bind (Sum.elim (fun (q6:Unit)=>some (none,2)) (fun (q7:Str×Bool×(List zf)×(List zv)×Str)=>(bif (decide ((q7.2.2.2.1.length:Int)>0)) then some (none,2) else (doc_Of q7.2.2.1).bind fun v8=>some (v8.1,v8.2)))))))
noncomputable def Zt (d:(Option qg)):Option Int:=
 (bif d.isNone then some 0 else (d).bind fun v1=>some (v1.l.length:Int))
noncomputable def Z8 (d:(Option qg))(n:Int):Option Bool:=
 (bif (decide (n≥0)) then (Zt d).bind fun v1=>some (decide (n<v1)) else some false)
noncomputable def qw (d:(Option qg))(n:Int):Option zf:=
 (Z8 d n).bind fun v1=>(bif (!v1) then some (zf.mk 0 0 [] [] [] [] [] []) else (d).bind fun v2=>(at' v2.l n).bind fun v3=>(doc_clone v3).bind fun v4=>some (zf.mk v4.1 v4.2.1 v4.2.2.1 v4.2.2.2.1 v4.2.2.2.2.1 v4.2.2.2.2.2.1 v4.2.2.2.2.2.2.1 v4.2.2.2.2.2.2.2))
noncomputable def QY (d:(Option qg))(n:Int)(y2:Int×(List Int)):Option ((Int×(List Int))⊕(List Int)):=
 (d).bind fun v3=>(at' v3.end_ n).bind fun v4=>(bif (decide (y2.1<v4)) then (app 8 y2.2 [y2.1]).bind fun v5=>(d).bind fun v6=>(at' v6.end_ y2.1).bind fun v7=>some (.inl (v7,v5)) else some (.inr y2.2))
noncomputable def Qz (d:(Option qg))(n:Int):Option (List Int):=
 (Z8 d n).bind fun v1=>(bif (!v1) then some [] else (iter (QY d n) ((w64 (n+1)),[])).bind (fun (q8:(List Int))=>some q8))
noncomputable def ZA (d:(Option qg))(n:Int):Option Int:=
 (Z8 d n).bind fun v1=>(bif (!v1) then some 0 else (d).bind fun v2=>(at' v2.end_ n).bind fun v3=>some v3)
noncomputable def Jb (d:(Option qg))(y4:Int×(List Int)):Option ((Int×(List Int))⊕(List Int)):=
 (bif (decide (y4.1≥0)) then (app 8 y4.2 [y4.1]).bind fun v5=>(d).bind fun v6=>(at' v6.l y4.1).bind fun v7=>some (.inl (v7.Parent,v5)) else some (.inr y4.2))
noncomputable def Je (d:(Option qg))(n:Int):Option (List Int):=
 (Z8 d n).bind fun v1=>(bif (!v1) then some [] else (d).bind fun v2=>(at' v2.l n).bind fun v3=>(iter (Jb d) (v3.Parent,[])).bind (fun (q8:(List Int))=>some q8))
noncomputable def slices_Insert_int (s:(List Int))(i:Int)(v_:(List Int)):Option (List Int):=
 ins 8 s i v_
noncomputable def qs (a:Int)(cmp:(zb→zb→Option Int))(y2:Int×(List zb)):Option ((Int×(List zb))⊕(List zb)):=
 ((bif (decide (y2.1>a)) then (at' y2.2 y2.1).bind fun v3=>(at' y2.2 (w64 (y2.1-1))).bind fun v4=>(cmp v3 v4).bind fun v5=>some (decide (v5<0)) else some false):Option (Bool)).bind (fun (q6:Bool)=>(bif q6 then (at' y2.2 (w64 (y2.1-1))).bind fun v7=>(at' y2.2 y2.1).bind fun v8=>(at' y2.2 y2.1).bind fun v9=>(put y2.2 y2.1 v7).bind fun v10=>(at' v10 (w64 (y2.1-1))).bind fun v11=>(put v10 (w64 (y2.1-1)) v8).bind fun v12=>some (.inl ((w64 (y2.1-1)),v12)) else some (.inr y2.2)))
noncomputable def qr (a:Int)(b:Int)(cmp:(zb→zb→Option Int))(y1:Int×(List zb)):Option ((Int×(List zb))⊕(List zb)):=
 (bif (decide (y1.1<b)) then (iter (qs a cmp) (y1.1,y1.2)).bind (fun (q13:(List zb))=>some (.inl ((w64 (y1.1+1)),q13))) else some (.inr y1.2))
noncomputable def zV (data:(List zb))(a:Int)(b:Int)(cmp:(zb→zb→Option Int)):Option (List zb):=
 (iter (qr a b cmp) ((w64 (a+1)),data)).bind (fun (q14:(List zb))=>some q14)
noncomputable def Jh (a:Int)(b:Int)(n:Int)(y1:Int×(List zb)):Option ((Int×(List zb))⊕(List zb)):=
 (bif (decide (y1.1<n)) then (at' y1.2 (w64 (b+y1.1))).bind fun v2=>(at' y1.2 (w64 (a+y1.1))).bind fun v3=>(at' y1.2 (w64 (a+y1.1))).bind fun v4=>(put y1.2 (w64 (a+y1.1)) v2).bind fun v5=>(at' v5 (w64 (b+y1.1))).bind fun v6=>(put v5 (w64 (b+y1.1)) v3).bind fun v7=>some (.inl ((w64 (y1.1+1)),v7)) else some (.inr y1.2))
noncomputable def qB (data:(List zb))(a:Int)(b:Int)(n:Int)(cmp:(zb→zb→Option Int)):Option (List zb):=
 (iter (Jh a b n) (0,data)).bind (fun (q8:(List zb))=>some q8)
noncomputable def J4 (m:Int)(cmp:(zb→zb→Option Int))(y1:Int×Int×(List zb)):Option ((Int×Int×(List zb))⊕(Int×(List zb))):=
 (bif (y1.1 != y1.2.1) then (bif (decide (y1.1>y1.2.1)) then (qB y1.2.2 (w64 (m-y1.1)) m y1.2.1 cmp).bind fun v2=>(eqn v2.length y1.2.2.length).bind fun _=>some (.inl ((w64 (y1.1-y1.2.1)),y1.2.1,v2)) else (qB y1.2.2 (w64 (m-y1.1)) (w64 ((w64 (m+y1.2.1))-y1.1)) y1.1 cmp).bind fun v4=>(eqn v4.length y1.2.2.length).bind fun _=>some (.inl (y1.1,(w64 (y1.2.1-y1.1)),v4))) else some (.inr (y1.1,y1.2.2)))
noncomputable def ZP (data:(List zb))(a:Int)(m:Int)(b:Int)(cmp:(zb→zb→Option Int)):Option (List zb):=
 (iter (J4 m cmp) ((w64 (m-a)),(w64 (b-m)),data)).bind (fun (q6:Int×(List zb))=>(qB q6.2 (w64 (m-q6.1)) m q6.1 cmp).bind fun v7=>(eqn v7.length q6.2.length).bind fun _=>some v7)
noncomputable def Jz (data:(List zb))(a:Int)(cmp:(zb→zb→Option Int))(y1:Int×Int):Option ((Int×Int)⊕Int):=
 (bif (decide (y1.1<y1.2)) then (at' data (w64 ((v64 (w64 (y1.1+y1.2))).fdiv (2^1)))).bind fun v2=>(at' data a).bind fun v3=>(cmp v2 v3).bind fun v4=>(bif (decide (v4<0)) then some (.inl ((w64 ((w64 ((v64 (w64 (y1.1+y1.2))).fdiv (2^1)))+1)),y1.2)) else some (.inl (y1.1,(w64 ((v64 (w64 (y1.1+y1.2))).fdiv (2^1)))))) else some (.inr y1.1))
noncomputable def Jr (q5:Int)(y6:Int×(List zb)):Option ((Int×(List zb))⊕(List zb)):=
 (bif (decide (y6.1<(w64 (q5-1)))) then (at' y6.2 (w64 (y6.1+1))).bind fun v7=>(at' y6.2 y6.1).bind fun v8=>(at' y6.2 y6.1).bind fun v9=>(put y6.2 y6.1 v7).bind fun v10=>(at' v10 (w64 (y6.1+1))).bind fun v11=>(put v10 (w64 (y6.1+1)) v8).bind fun v12=>some (.inl ((w64 (y6.1+1)),v12)) else some (.inr y6.2))
noncomputable def Jw (data:(List zb))(m:Int)(cmp:(zb→zb→Option Int))(y14:Int×Int):Option ((Int×Int)⊕Int):=
 (bif (decide (y14.1<y14.2)) then (at' data m).bind fun v15=>(at' data (w64 ((v64 (w64 (y14.1+y14.2))).fdiv (2^1)))).bind fun v16=>(cmp v15 v16).bind fun v17=>(bif (!(decide (v17<0))) then some (.inl ((w64 ((w64 ((v64 (w64 (y14.1+y14.2))).fdiv (2^1)))+1)),y14.2)) else some (.inl (y14.1,(w64 ((v64 (w64 (y14.1+y14.2))).fdiv (2^1)))))) else some (.inr y14.1))
noncomputable def JE (q18:Int)(y19:Int×(List zb)):Option ((Int×(List zb))⊕(List zb)):=
 (bif (decide (y19.1>q18)) then (at' y19.2 (w64 (y19.1-1))).bind fun v20=>(at' y19.2 y19.1).bind fun v21=>(at' y19.2 y19.1).bind fun v22=>(put y19.2 y19.1 v20).bind fun v23=>(at' v23 (w64 (y19.1-1))).bind fun v24=>(put v23 (w64 (y19.1-1)) v21).bind fun v25=>some (.inl ((w64 (y19.1-1)),v25)) else some (.inr y19.2))
noncomputable def Jm (data:(List zb))(a:Int)(m:Int)(b:Int)(cmp:(zb→zb→Option Int))(y27:Int×Int):Option ((Int×Int)⊕(Int×Int×Int)):=
 (bif (decide (y27.1<y27.2)) then (at' data (w64 ((w64 ((w64 ((w64 ((v64 (w64 (a+b))).fdiv (2^1)))+m))-1))-(w64 ((v64 (w64 (y27.1+y27.2))).fdiv (2^1)))))).bind fun v28=>(at' data (w64 ((v64 (w64 (y27.1+y27.2))).fdiv (2^1)))).bind fun v29=>(cmp v28 v29).bind fun v30=>(bif (!(decide (v30<0))) then some (.inl ((w64 ((w64 ((v64 (w64 (y27.1+y27.2))).fdiv (2^1)))+1)),y27.2)) else some (.inl (y27.1,(w64 ((v64 (w64 (y27.1+y27.2))).fdiv (2^1)))))) else some (.inr ((w64 ((v64 (w64 (a+b))).fdiv (2^1))),(w64 ((w64 ((v64 (w64 (a+b))).fdiv (2^1)))+m)),y27.1)))
noncomputable def Jo (data:(List zb))(a:Int)(m:Int)(b:Int)(cmp:(zb→zb→Option Int))(y49:Int×Int):Option ((Int×Int)⊕(Int×Int×Int)):=
 (bif (decide (y49.1<y49.2)) then (at' data (w64 ((w64 ((w64 ((w64 ((v64 (w64 (a+b))).fdiv (2^1)))+m))-1))-(w64 ((v64 (w64 (y49.1+y49.2))).fdiv (2^1)))))).bind fun v50=>(at' data (w64 ((v64 (w64 (y49.1+y49.2))).fdiv (2^1)))).bind fun v51=>(cmp v50 v51).bind fun v52=>(bif (!(decide (v52<0))) then some (.inl ((w64 ((w64 ((v64 (w64 (y49.1+y49.2))).fdiv (2^1)))+1)),y49.2)) else some (.inl (y49.1,(w64 ((v64 (w64 (y49.1+y49.2))).fdiv (2^1)))))) else some (.inr ((w64 ((v64 (w64 (a+b))).fdiv (2^1))),(w64 ((w64 ((v64 (w64 (a+b))).fdiv (2^1)))+m)),y49.1)))
noncomputable def Z7 (frec:((List zb)→Int→Int→Int→(zb→zb→Option Int)→Option (List zb)))(data:(List zb))(a:Int)(m:Int)(b:Int)(cmp:(zb→zb→Option Int)):Option (List zb):=
 (bif ((w64 (m-a))==1) then (iter (Jz data a cmp) (m,b)).bind (fun (q5:Int)=>(iter (Jr q5) (a,data)).bind (fun (q13:(List zb))=>some q13)) else (bif ((w64 (b-m))==1) then (iter (Jw data m cmp) (a,m)).bind (fun (q18:Int)=>(iter (JE q18) (m,data)).bind (fun (q26:(List zb))=>some q26)) else (bif (decide (m>(w64 ((v64 (w64 (a+b))).fdiv (2^1))))) then (iter (Jm data a m b cmp) ((w64 ((w64 ((w64 ((v64 (w64 (a+b))).fdiv (2^1)))+m))-b)),(w64 ((v64 (w64 (a+b))).fdiv (2^1))))).bind (fun (q31:Int×Int×Int)=>((bif (decide (q31.2.2<m)) then some (decide (m<(w64 (q31.2.1-q31.2.2)))) else some false):Option (Bool)).bind (fun (q32:Bool)=>(bif q32 then (ZP data q31.2.2 m (w64 (q31.2.1-q31.2.2)) cmp).bind fun v33=>(eqn v33.length data.length).bind fun _=>((bif (decide (a<q31.2.2)) then some (decide (q31.2.2<q31.1)) else some false):Option (Bool)).bind (fun (q34:Bool)=>(bif q34 then (frec v33 a q31.2.2 q31.1 cmp).bind fun v35=>(eqn v35.length v33.length).bind fun _=>(bif (decide (q31.1<(w64 (q31.2.1-q31.2.2)))) then (bif (decide ((w64 (q31.2.1-q31.2.2))<b)) then (frec v35 q31.1 (w64 (q31.2.1-q31.2.2)) b cmp).bind fun v36=>(eqn v36.length v35.length).bind fun _=>some v36 else some v35) else some v35) else (bif (decide (q31.1<(w64 (q31.2.1-q31.2.2)))) then (bif (decide ((w64 (q31.2.1-q31.2.2))<b)) then (frec v33 q31.1 (w64 (q31.2.1-q31.2.2)) b cmp).bind fun v39=>(eqn v39.length v33.length).bind fun _=>some v39 else some v33) else some v33))) else ((bif (decide (a<q31.2.2)) then some (decide (q31.2.2<q31.1)) else some false):Option (Bool)).bind (fun (q42:Bool)=>(bif q42 then (frec data a q31.2.2 q31.1 cmp).bind fun v43=>(eqn v43.length data.length).bind fun _=>(bif (decide (q31.1<(w64 (q31.2.1-q31.2.2)))) then (bif (decide ((w64 (q31.2.1-q31.2.2))<b)) then (frec v43 q31.1 (w64 (q31.2.1-q31.2.2)) b cmp).bind fun v44=>(eqn v44.length v43.length).bind fun _=>some v44 else some v43) else some v43) else (bif (decide (q31.1<(w64 (q31.2.1-q31.2.2)))) then (bif (decide ((w64 (q31.2.1-q31.2.2))<b)) then (frec data q31.1 (w64 (q31.2.1-q31.2.2)) b cmp).bind fun v47=>(eqn v47.length data.length).bind fun _=>some v47 else some data) else some data)))))) else (iter (Jo data a m b cmp) (a,m)).bind (fun (q53:Int×Int×Int)=>((bif (decide (q53.2.2<m)) then some (decide (m<(w64 (q53.2.1-q53.2.2)))) else some false):Option (Bool)).bind (fun (q54:Bool)=>(bif q54 then (ZP data q53.2.2 m (w64 (q53.2.1-q53.2.2)) cmp).bind fun v55=>(eqn v55.length data.length).bind fun _=>((bif (decide (a<q53.2.2)) then some (decide (q53.2.2<q53.1)) else some false):Option (Bool)).bind (fun (q56:Bool)=>(bif q56 then (frec v55 a q53.2.2 q53.1 cmp).bind fun v57=>(eqn v57.length v55.length).bind fun _=>(bif (decide (q53.1<(w64 (q53.2.1-q53.2.2)))) then (bif (decide ((w64 (q53.2.1-q53.2.2))<b)) then (frec v57 q53.1 (w64 (q53.2.1-q53.2.2)) b cmp).bind fun v58=>(eqn v58.length v57.length).bind fun _=>some v58 else some v57) else some v57) else (bif (decide (q53.1<(w64 (q53.2.1-q53.2.2)))) then (bif (decide ((w64 (q53.2.1-q53.2.2))<b)) then (frec v55 q53.1 (w64 (q53.2.1-q53.2.2)) b cmp).bind fun v61=>(eqn v61.length v55.length).bind fun _=>some v61 else some v55) else some v55))) else ((bif (decide (a<q53.2.2)) then some (decide (q53.2.2<q53.1)) else some false):Option (Bool)).bind (fun (q64:Bool)=>(bif q64 then (frec data a q53.2.2 q53.1 cmp).bind fun v65=>(eqn v65.length data.length).bind fun _=>(bif (decide (q53.1<(w64 (q53.2.1-q53.2.2)))) then (bif (decide ((w64 (q53.2.1-q53.2.2))<b)) then (frec v65 q53.1 (w64 (q53.2.1-q53.2.2)) b cmp).bind fun v66=>(eqn v66.length v65.length).bind fun _=>some v66 else some v65) else some v65) else (bif (decide (q53.1<(w64 (q53.2.1-q53.2.2)))) then (bif (decide ((w64 (q53.2.1-q53.2.2))<b)) then (frec data q53.1 (w64 (q53.2.1-q53.2.2)) b cmp).bind fun v69=>(eqn v69.length data.length).bind fun _=>some v69 else some data) else some data)))))))))
noncomputable def Zd:Nat→((List zb)→Int→Int→Int→(zb→zb→Option Int)→Option (List zb))
 |0=>fun _ _ _ _ _=>none
 |fuel+1=>Z7 (Zd fuel)
noncomputable def ZB (data:(List zb))(a:Int)(m:Int)(b:Int)(cmp:(zb→zb→Option Int)):Option (List zb):=lim fun fuel=>Zd fuel data a m b cmp
noncomputable def Zl (n:Int)(cmp:(zb→zb→Option Int))(y1:Int×Int×(List zb)):Option ((Int×Int×(List zb))⊕(Int×(List zb))):=
 (bif (decide (y1.2.1≤n)) then (zV y1.2.2 y1.1 y1.2.1 cmp).bind fun v2=>(eqn v2.length y1.2.2.length).bind fun _=>some (.inl (y1.2.1,(w64 (y1.2.1+20)),v2)) else some (.inr (y1.1,y1.2.2)))
noncomputable def Zo (n:Int)(cmp:(zb→zb→Option Int))(y6:Int×(List zb))(y7:Int×Int×(List zb)):Option ((Int×Int×(List zb))⊕(Int×(List zb))):=
 (bif (decide (y7.2.1≤n)) then (ZB y7.2.2 y7.1 (w64 (y7.1+y6.1)) y7.2.1 cmp).bind fun v8=>(eqn v8.length y7.2.2.length).bind fun _=>some (.inl (y7.2.1,(w64 (y7.2.1+(w64 (2*y6.1)))),v8)) else some (.inr (y7.1,y7.2.2)))
noncomputable def Zm (n:Int)(cmp:(zb→zb→Option Int))(y6:Int×(List zb)):Option ((Int×(List zb))⊕(List zb)):=
 (bif (decide (y6.1<n)) then (iter (Zo n cmp y6) (0,(w64 (2*y6.1)),y6.2)).bind (fun (q10:Int×(List zb))=>(bif (decide ((w64 (q10.1+y6.1))<n)) then (ZB q10.2 q10.1 (w64 (q10.1+y6.1)) n cmp).bind fun v11=>(eqn v11.length q10.2.length).bind fun _=>some (.inl ((w64 (y6.1*2)),v11)) else some (.inl ((w64 (y6.1*2)),q10.2)))) else some (.inr y6.2))
noncomputable def qW (data:(List zb))(n:Int)(cmp:(zb→zb→Option Int)):Option (List zb):=
 (iter (Zl n cmp) (0,20,data)).bind (fun (q4:Int×(List zb))=>(zV q4.2 q4.1 n cmp).bind fun v5=>(eqn v5.length q4.2.length).bind fun _=>(iter (Zm n cmp) (20,v5)).bind (fun (q13:(List zb))=>some q13))
noncomputable def qP (x:(List zb))(cmp:(zb→zb→Option Int)):Option (List zb):=
 (qW x (x.length:Int) cmp).bind fun v1=>(eqn v1.length x.length).bind fun _=>some v1
noncomputable def zaB (x:Str):Option Bool:=
 some (!(x==x))
noncomputable def ZW (x:Str)(y_:Str):Option Int:=
 (zaB x).bind fun v1=>(zaB y_).bind fun v2=>(bif v1 then (bif v2 then some 0 else some (-1)) else (bif v2 then some 1 else (bif (lt x y_) then some (-1) else (bif (!(lt x y_||x==y_)) then some 1 else some 0))))
noncomputable def cmp_Or_int_b1 (vals:(List Int))(y1:Int):Option (Int⊕(Int⊕Unit)):=
 (bif (decide (y1<(vals.length:Int))) then (at' vals y1).bind fun v2=>(bif (v2 != 0) then some (.inr (Sum.inl v2)) else some (.inl (w64 (y1+1)))) else some (.inr (Sum.inr ())))
noncomputable def cmp_Or_int (vals:(List Int)):Option Int:=
 (iter (cmp_Or_int_b1 vals) 0).bind (Sum.elim (fun (q3:Int)=>some q3) (fun (q4:Unit)=>some 0))
noncomputable def J1 (a:zb)(b:zb):Option Int:=
 (ZW a.Prefix b.Prefix).bind fun v1=>(ZW a.URI b.URI).bind fun v2=>(cmp_Or_int [v1,v2]).bind fun v3=>some v3
noncomputable def space_Sorted (l:(List zb)):Option (List zb):=
 (Qa l).bind fun v1=>(qP v1 (fun x0 x1=>J1 x0 x1)).bind fun v2=>(eqn v2.length v1.length).bind fun _=>some v2
noncomputable def space_Scope_b2 (v6:zf)(y7:Int×(List (Str×Bool))×(List zb)):Option ((Int×(List (Str×Bool))×(List zb))⊕((List (Str×Bool))×(List zb))):=
 (bif (decide (y7.1<(v6.Decls.length:Int))) then (at' v6.Decls y7.1).bind fun v8=>(bif (!((mget y7.2.1 v8.Prefix).getD false)) then (bif (!(v8.URI==[])) then (app 32 y7.2.2 [v8]).bind fun v9=>some (.inl ((w64 (y7.1+1)),(mput y7.2.1 v8.Prefix true),v9)) else some (.inl ((w64 (y7.1+1)),(mput y7.2.1 v8.Prefix true),y7.2.2))) else some (.inl ((w64 (y7.1+1)),(mput y7.2.1 v8.Prefix true),y7.2.2))) else some (.inr (y7.2.1,y7.2.2)))
noncomputable def space_Scope_b1 (d:(Option qg))(v3:(List Int))(y4:Int×(List (Str×Bool))×(List zb)):Option ((Int×(List (Str×Bool))×(List zb))⊕(List zb)):=
 (bif (decide (y4.1<(v3.length:Int))) then (at' v3 y4.1).bind fun v5=>(qw d v5).bind fun v6=>(iter (space_Scope_b2 v6) (0,y4.2.1,y4.2.2)).bind (fun (q10:(List (Str×Bool))×(List zb))=>some (.inl ((w64 (y4.1+1)),q10.1,q10.2))) else some (.inr y4.2.2))
noncomputable def zaW (d:(Option qg))(n:Int):Option (List zb):=
 (qw d n).bind fun v1=>(bif (v1.Kind != 1) then some [] else (Je d n).bind fun v2=>(slices_Insert_int v2 0 [n]).bind fun v3=>(iter (space_Scope_b1 d v3) (0,(mput [] [120,109,108] true),[(zb.mk [120,109,108] [104,116,116,112,58,47,47,119,119,119,46,119,51,46,111,114,103,47,88,77,76,47,49,57,57,56,47,110,97,109,101,115,112,97,99,101])])).bind (fun (q11:(List zb))=>(space_Sorted q11).bind fun v12=>some v12))
noncomputable def point_some_b1 (n:Int)(part:Int)(many:Int)(y1:Int×(List zk)):Option ((Int×(List zk))⊕(List zk)):=
 (bif (decide (y1.1<many)) then (app 24 y1.2 [(zk.mk n part y1.1)]).bind fun v2=>some (.inl ((w64 (y1.1+1)),v2)) else some (.inr y1.2))
noncomputable def point_some (n:Int)(part:Int)(many:Int):Option (List zk):=
 (iter (point_some_b1 n part many) (0,[])).bind (fun (q3:(List zk))=>some q3)
noncomputable def point_Spaces (d:(Option qg))(n:Int):Option (List zk):=
 (zaW d n).bind fun v1=>(point_some n 1 (v1.length:Int)).bind fun v2=>some v2
noncomputable def point_Marks (d:(Option qg))(n:Int):Option (List zk):=
 (qw d n).bind fun v1=>(point_some n 2 (v1.Attrs.length:Int)).bind fun v2=>some v2
noncomputable def QX (d:(Option qg))(p:zk):Option Bool:=
 ((bif (decide (p.N<0)) then some true else (Zt d).bind fun v1=>(bif (decide (p.N≥v1)) then some true else some (decide (p.I<0)))):Option (Bool)).bind (fun (q2:Bool)=>(bif q2 then some false else (bif (p.Part==0) then some (p.I==0) else (bif (p.Part==1) then (zaW d p.N).bind fun v3=>some (decide (p.I<(v3.length:Int))) else (bif (p.Part==2) then (qw d p.N).bind fun v4=>some (decide (p.I<(v4.Attrs.length:Int))) else some false)))))
noncomputable def Qw (d:(Option qg))(p:zk):Option (zk×Bool):=
 (QX d p).bind fun v1=>(bif (!v1) then some ((zk.mk 0 0 0),false) else (bif (p.Part != 0) then some ((zk.mk p.N 0 0),true) else (bif (p.N==0) then some ((zk.mk 0 0 0),false) else (qw d p.N).bind fun v2=>some ((zk.mk v2.Parent 0 0),true))))
noncomputable def axis_names:Option (List Str):=
 some [[115,101,108,102],[99,104,105,108,100],[112,97,114,101,110,116],[100,101,115,99,101,110,100,97,110,116],[100,101,115,99,101,110,100,97,110,116,45,111,114,45,115,101,108,102],[97,110,99,101,115,116,111,114],[97,110,99,101,115,116,111,114,45,111,114,45,115,101,108,102],[97,116,116,114,105,98,117,116,101],[110,97,109,101,115,112,97,99,101],[102,111,108,108,111,119,105,110,103,45,115,105,98,108,105,110,103],[112,114,101,99,101,100,105,110,103,45,115,105,98,108,105,110,103],[102,111,108,108,111,119,105,110,103],[112,114,101,99,101,100,105,110,103]]
noncomputable def axis_Name (axis:Int):Option Str:=
 (bif (decide (axis<0)) then some [] else (axis_names).bind fun v1=>(bif (decide (axis≥(v1.length:Int))) then some [] else (axis_names).bind fun v2=>(at' v2 axis).bind fun v3=>some v3))
noncomputable def J0 (l:(List Int))(y1:Int×(List zk)):Option ((Int×(List zk))⊕(List zk)):=
 (bif (decide (y1.1<(l.length:Int))) then (at' l y1.1).bind fun v2=>(app 24 y1.2 [(zk.mk v2 0 0)]).bind fun v3=>some (.inl ((w64 (y1.1+1)),v3)) else some (.inr y1.2))
noncomputable def Js (l:(List Int)):Option (List zk):=
 (iter (J0 l) (0,[])).bind (fun (q4:(List zk))=>some q4)
noncomputable def qZ (s:(List zk))(i:Int)(v_:(List zk)):Option (List zk):=
 ins 24 s i v_
noncomputable def Qk (d:(Option qg))(p:zk):Option (List zk):=
 (Je d p.N).bind fun v1=>(Js v1).bind fun v2=>(bif (p.Part != 0) then (qZ v2 0 [(zk.mk p.N 0 0)]).bind fun v3=>some v3 else some v2)
noncomputable def Jn (n:Int)(p1:zk)(p2:Bool):Option Bool:=
 (bif (n==p1.N) then some true else some (!((decide (n>p1.N))==p2)))
noncomputable def zB (s:(List Int))(f:(Int→Option Bool))(y1:Int):Option (Int⊕(Int⊕Unit)):=
 (bif (decide (y1<(s.length:Int))) then (at' s y1).bind fun v2=>(f v2).bind fun v3=>(bif v3 then some (.inr (Sum.inl y1)) else some (.inl (w64 (y1+1)))) else some (.inr (Sum.inr ())))
noncomputable def Zz (s:(List Int))(f:(Int→Option Bool)):Option Int:=
 (iter (zB s f) 0).bind (Sum.elim (fun (q4:Int)=>some q4) (fun (q5:Unit)=>some (-1)))
noncomputable def zC (del:(Int→Option Bool))(y2:Int×Int×(List Int)):Option ((Int×Int×(List Int))⊕(Int×(List Int))):=
 (bif (decide (y2.2.1<(y2.2.2.length:Int))) then (at' y2.2.2 y2.2.1).bind fun v3=>(del v3).bind fun v4=>(bif (!v4) then (at' y2.2.2 y2.1).bind fun v5=>(put y2.2.2 y2.1 v3).bind fun v6=>some (.inl ((w64 (y2.1+1)),(w64 (y2.2.1+1)),v6)) else some (.inl (y2.1,(w64 (y2.2.1+1)),y2.2.2))) else some (.inr (y2.1,y2.2.2)))
noncomputable def qG (s:(List Int))(del:(Int→Option Bool)):Option (List Int):=
 (Zz s del).bind fun v1=>(bif (v1==(-1)) then some s else (iter (zC del) (v1,(w64 (v1+1)),s)).bind (fun (q7:Int×(List Int))=>(rng (q7.2.length:Int) q7.1 (q7.2.length:Int)).bind fun _=>(clr q7.2 q7.1.toNat ((q7.2.length:Int).toNat-q7.1.toNat) 0).bind fun v8=>(rng (q7.2.length:Int) 0 q7.1).bind fun _=>(prt v8 0 q7.1.toNat).bind fun v9=>some v9))
noncomputable def Zv (d:(Option qg))(p:zk)(behind:Bool):Option (List zk):=
 (Qw d p).bind fun v1=>(bif (!v1.2) then some [] else (bif (p.Part != 0) then some [] else (Qz d v1.1.N).bind fun v2=>(qG v2 (fun x0=>Jn x0 p behind)).bind fun v3=>(Js v3).bind fun v4=>some v4))
noncomputable def qE (s:(List Int))(v_:Int)(y1:Int):Option (Int⊕(Int⊕Unit)):=
 (bif (decide (y1<(s.length:Int))) then (at' s y1).bind fun v2=>(bif (v_==v2) then some (.inr (Sum.inl y1)) else some (.inl (w64 (y1+1)))) else some (.inr (Sum.inr ())))
noncomputable def QD (s:(List Int))(v_:Int):Option Int:=
 (iter (qE s v_) 0).bind (Sum.elim (fun (q3:Int)=>some q3) (fun (q4:Unit)=>some (-1)))
noncomputable def Za (s:(List Int))(v_:Int):Option Bool:=
 (QD s v_).bind fun v1=>some (decide (v1≥0))
noncomputable def Q0 (to_:Int)(but:(List Int))(y1:Int×(List zk)):Option ((Int×(List zk))⊕(List zk)):=
 (bif (decide (y1.1<to_)) then (Za but y1.1).bind fun v2=>(bif (!v2) then (app 24 y1.2 [(zk.mk y1.1 0 0)]).bind fun v3=>some (.inl ((w64 (y1.1+1)),v3)) else some (.inl ((w64 (y1.1+1)),y1.2))) else some (.inr y1.2))
noncomputable def Qm (from_:Int)(to_:Int)(but:(List Int)):Option (List zk):=
 (iter (Q0 to_ but) (from_,[])).bind (fun (q4:(List zk))=>some q4)
noncomputable def axis_far (d:(Option qg))(p:zk)(axis:Int):Option (List zk):=
 (bif (axis==12) then (Je d p.N).bind fun v1=>(Qm 0 p.N v1).bind fun v2=>some v2 else (ZA d p.N).bind fun v3=>(bif (p.Part != 0) then (Zt d).bind fun v4=>(Qm (w64 (p.N+1)) v4 []).bind fun v5=>some v5 else (Zt d).bind fun v6=>(Qm v3 v6 []).bind fun v7=>some v7))
noncomputable def axis_lead (d:(Option qg))(p:zk)(axis:Int):Option (List zk):=
 (bif (axis==0) then some [p] else (bif (axis==2) then (Qk d p).bind fun v1=>(rng (v1.length:Int) 0 (mn (v1.length:Int) 1)).bind fun _=>(prt v1 0 ((mn (v1.length:Int) 1).toNat)).bind fun v2=>some v2 else (bif (axis==5) then (Qk d p).bind fun v3=>some v3 else (bif (axis==6) then ((Qk d p).bind fun v4=>(qZ v4 0 [p]).bind fun v5=>some v5:Option ((List zk))).bind (fun (q6:(List zk))=>some q6) else ((bif (axis==9) then some true else some (axis==10)):Option (Bool)).bind (fun (q7:Bool)=>(bif q7 then (Zv d p (axis==9)).bind fun v8=>some v8 else ((bif (axis==11) then some true else some (axis==12)):Option (Bool)).bind (fun (q9:Bool)=>(bif q9 then (axis_far d p axis).bind fun v10=>some v10 else ((bif (axis==4) then some (!(p.Part==0)) else some false):Option (Bool)).bind (fun (q11:Bool)=>(bif q11 then some [p] else (bif (!(p.Part==0)) then some [] else (bif (axis==1) then (Qz d p.N).bind fun v12=>(Js v12).bind fun v13=>some v13 else (bif (axis==3) then (ZA d p.N).bind fun v14=>(Qm (w64 (p.N+1)) v14 []).bind fun v15=>some v15 else (bif (axis==4) then (ZA d p.N).bind fun v16=>(Qm p.N v16 []).bind fun v17=>some v17 else (bif (axis==7) then (point_Marks d p.N).bind fun v18=>some v18 else (bif (axis==8) then (point_Spaces d p.N).bind fun v19=>some v19 else some []))))))))))))))))
noncomputable def zW (y1:Int×Int×(List zk)):Option ((Int×Int×(List zk))⊕(List zk)):=
 (bif (decide (y1.1<y1.2.1)) then (at' y1.2.2 y1.2.1).bind fun v2=>(at' y1.2.2 y1.1).bind fun v3=>(at' y1.2.2 y1.1).bind fun v4=>(put y1.2.2 y1.1 v2).bind fun v5=>(at' v5 y1.2.1).bind fun v6=>(put v5 y1.2.1 v3).bind fun v7=>some (.inl ((w64 (y1.1+1)),(w64 (y1.2.1-1)),v7)) else some (.inr y1.2.2))
noncomputable def qt (s:(List zk)):Option (List zk):=
 (iter (zW) (0,(w64 ((s.length:Int)-1)),s)).bind (fun (q8:(List zk))=>some q8)
noncomputable def qH (d:(Option qg))(p:zk)(axis:Int):Option (List zk):=
 (QX d p).bind fun v1=>(bif (!v1) then some [] else (axis_Name axis).bind fun v2=>(bif (v2==[]) then some [] else (axis_lead d p axis).bind fun v3=>(bif (axis==12) then (qt v3).bind fun v4=>(eqn v4.length v3.length).bind fun _=>some v4 else (bif (axis==10) then (qt v3).bind fun v6=>(eqn v6.length v3.length).bind fun _=>some v6 else some v3))))
noncomputable def JY (s:(List Str))(v_:Str)(y1:Int):Option (Int⊕(Int⊕Unit)):=
 (bif (decide (y1<(s.length:Int))) then (at' s y1).bind fun v2=>(bif (v_==v2) then some (.inr (Sum.inl y1)) else some (.inl (w64 (y1+1)))) else some (.inr (Sum.inr ())))
noncomputable def Qp (s:(List Str))(v_:Str):Option Int:=
 (iter (JY s v_) 0).bind (Sum.elim (fun (q3:Int)=>some q3) (fun (q4:Unit)=>some (-1)))
noncomputable def axis_Of (name:Str):Option (Int×Bool):=
 (axis_names).bind fun v1=>(Qp v1 name).bind fun v2=>some ((mx v2 0),(decide (v2≥0)))
noncomputable def Zw:Option Bool:=
 (JI [60,97,32,98,61,39,49,39,47,62]).bind fun v1=>(qH v1.1 (zk.mk 1 2 0) 2).bind fun v2=>(axis_Of [112,97,114,101,110,116]).bind fun v3=>(bif (v1.2==0) then (bif ((v2.length:Int)==1) then (at' v2 0).bind fun v4=>(bif (zk.eqb v4 (zk.mk 1 0 0)) then (bif (v3.1==2) then some v3.2 else some false) else some false) else some false) else some false)
noncomputable def qS (l:(List zk))(p:zk)(y1:Int):Option (Int⊕(Unit⊕Unit)):=
 (bif (decide (y1<(l.length:Int))) then (at' l y1).bind fun v2=>(bif (zk.eqb v2 p) then some (.inr (Sum.inl ())) else some (.inl (w64 (y1+1)))) else some (.inr (Sum.inr ())))
noncomputable def qd (l:(List zk))(p:zk):Option Bool:=
 (iter (qS l p) 0).bind (Sum.elim (fun (q3:Unit)=>some true) (fun (q4:Unit)=>some false))
noncomputable def ql (n:Int)(m:Int)(v4:(Option qg)×Int)(y9:Int):Option (Int⊕(Unit⊕Unit)):=
 (bif (decide (y9<([(ZE.mk 3 5),(ZE.mk 4 6),(ZE.mk 11 12),(ZE.mk 9 10),(ZE.mk 1 2)].length:Int))) then (at' [(ZE.mk 3 5),(ZE.mk 4 6),(ZE.mk 11 12),(ZE.mk 9 10),(ZE.mk 1 2)] y9).bind fun v10=>(qH v4.1 (zk.mk n 0 0) v10.e0).bind fun v11=>(qd v11 (zk.mk m 0 0)).bind fun v12=>(qH v4.1 (zk.mk m 0 0) v10.e1).bind fun v13=>(qd v13 (zk.mk n 0 0)).bind fun v14=>(bif (!(v12==v14)) then some (.inr (Sum.inl ())) else some (.inl (w64 (y9+1)))) else some (.inr (Sum.inr ())))
noncomputable def Z1 (b:Str)(n:Int)(m:Int):Option Bool:=
 ((Zw).bind fun v1=>(bif (!v1) then some true else some (decide ((b.length:Int)>800))):Option (Bool)).bind (fun (q2:Bool)=>(bif q2 then (Zw).bind fun v3=>some v3 else (JI b).bind fun v4=>((bif (v4.2 != 0) then some true else (bif (decide (n<0)) then some true else (bif (decide (m<0)) then some true else (Zt v4.1).bind fun v5=>(bif (decide (n≥v5)) then some true else (Zt v4.1).bind fun v6=>some (decide (m≥v6)))))):Option (Bool)).bind (fun (q7:Bool)=>(bif q7 then ((bif (v4.2==0) then some true else some v4.1.isNone):Option (Bool)).bind (fun (q8:Bool)=>some q8) else (iter (ql n m v4) 0).bind (Sum.elim (fun (q15:Unit)=>some false) (fun (q16:Unit)=>some true))))))
end G
