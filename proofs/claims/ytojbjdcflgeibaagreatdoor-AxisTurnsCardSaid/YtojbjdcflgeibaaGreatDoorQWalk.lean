/- WALKS, printed by aw.py: that the program's functions compute the plain ones. Conditions: none. -/
import Derived.Test.YtojbjdcflgeibaaGreatDoorQWalk9
set_option linter.unusedVariables false
set_option linter.unusedSimpArgs false
set_option maxRecDepth 20000
set_option maxHeartbeats 4000000
namespace Go.Proofs.YtojbjdcflgeibaaGreatDoor
open Go Go.Abs W G
theorem axis_lead_ok {d:(Option qg)}{p:zk}{axis:Int}{r:(List zk)}(h:axis_lead d p axis=some r):XSpec Tryz.prog 91 [oP Zs d,.agg (zG p),I axis] [] (.sl 1 0 r.length) [(1,.row 54 3 0 (F zG r))] []:=by
 unfold axis_lead at h;refine zc Tryz.hU Tryz.func91 (fun _ _ _ hB=> ?_);refine z.d2.b.c6.b1.d7.e2.o.l2.g ?_;refine zn h (fun _ h=> ?_) (fun _ h=> ?_)
 ·refine z.a6.c.g ?_;refine Z6 (e:=zG) [p] ?_;refine z.E.g ?_;apply za [(1016,1)] hB h
 refine z.d2.b.g ?_;refine zn h (fun _ h=> ?_) (fun _ h=> ?_)
 ·refine z.a6.b.g ?_;refine zg [(1,102201)] [] h (fun _=>axis_above_ok) (fun v1 _ h=> ?_);refine z.p0.I.O.g ?_;refine l_subp h (fun h=> ?_);refine z.E.g ?_;refine f_shrink 102201 h (fun v2 ev2 h=> ?_);refine qj 6 v2.length ?_;apply za [(102201,1)] hB h
 refine z.d2.b.g ?_;refine zn h (fun _ h=> ?_) (fun _ h=> ?_)
 ·refine z.a6.b.g ?_;refine zg [(1,103301)] [] h (fun _=>axis_above_ok) (fun v3 _ h=> ?_);refine z.E.g ?_;apply za [(103301,1)] hB h
 refine z.d2.b.g ?_;refine zn h (fun _ h=> ?_) (fun _ h=> ?_)
 ·refine zaE ?_;refine qQ (fun q6=>(.normal,⟨[(6,.sl 103901 0 q6.length)],[(103901,.row 54 3 0 (F zG q6))],[1041,103901]⟩)) h (fun t h=> ?_) (fun q6 h=> ?_)
  ·refine qX [5] (.q 0 (.q 1 (.q 3 (.alt 2 (.e 4 (.e 5 (.q 6 .done))) (.e 4 (.e 2 (.e 5 (.q 6 .done)))))))) hm ?_;refine z.n5.d.n5.A.g ?_;refine zQ ?_ ?_
   ·refine ge ?_;refine zI [(1,103901)] [] h (fun _=>axis_above_ok) (fun v4 _ h=> ?_);refine ge ?_;refine n_lit (e:=zG) [p] ?_;refine ge ?_;refine zI [(101,103901),(103,1041)] [103901,1041] h (fun _=>JQ) (fun v5 _ h=> ?_);refine z.d9.k5.g ?_;exact zq [(103901,103901)] hB h
   refine ge ?_;refine n_lit (e:=zG) [p] ?_;refine ge ?_;refine zI [(1,103901)] [] h (fun _=>axis_above_ok) (fun v4 _ h=> ?_);refine ge ?_;refine zI [(101,103901),(103,1041)] [103901,1041] h (fun _=>JQ) (fun v5 _ h=> ?_);refine z.d9.k5.g ?_;exact zq [(103901,103901)] hB h
  refine z.B.h6.e0.g ?_;apply za [(103901,1)] hB h
 refine zaE ?_;refine qQ (fun q7=>(.normal,⟨[(0,oP Zs d),(2,I axis),(4,.ptr 1004 0),(7,B (p.Part==0)),(43,B q7)],[(1004,.box 54 [I p.N,I p.Part,I p.I])],[]⟩)) h (fun t h=> ?_) (fun q7 h=> ?_)
 ·refine z.l8.g ?_;refine zd h (fun _ h=> ?_) (fun _ h=> ?_)
  ·refine z.s.c4.n.g ?_;exact zq [(1004,1004)] hB h
  refine z.s.l3.r.g ?_;exact zq [(1004,1004)] hB h
 refine f_t ?_;refine zn h (fun _ h=> ?_) (fun _ h=> ?_)
 ·refine z.d7.a.a6.b.g ?_;refine zg [(1,105401)] [] h (fun _=>axis_beside_ok) (fun v8 _ h=> ?_);refine z.E.g ?_;apply za [(105401,1)] hB h
 refine zaE ?_;refine qQ (fun q9=>(.normal,⟨[(0,oP Zs d),(2,I axis),(4,.ptr 1004 0),(7,B (p.Part==0)),(55,B q9)],[(1004,.box 54 [I p.N,I p.Part,I p.I])],[]⟩)) h (fun t h=> ?_) (fun q9 h=> ?_)
 ·refine z.l8.g ?_;refine zd h (fun _ h=> ?_) (fun _ h=> ?_)
  ·refine z.s.c4.n.g ?_;exact zq [(1004,1004)] hB h
  refine z.s.l3.r.g ?_;exact zq [(1004,1004)] hB h
 refine f_t ?_;refine zn h (fun _ h=> ?_) (fun _ h=> ?_)
 ·refine z.a.a6.b.g ?_;refine zg [(1,106501)] [] h (fun _=>axis_far_ok) (fun v10 _ h=> ?_);refine z.E.g ?_;apply za [(106501,1)] hB h
 refine zaE ?_;refine qQ (fun q11=>(.normal,⟨[(0,oP Zs d),(2,I axis),(4,.ptr 1004 0),(7,B (p.Part==0)),(66,B q11)],[(1004,.box 54 [I p.N,I p.Part,I p.I])],[]⟩)) h (fun t h=> ?_) (fun q11 h=> ?_)
 ·refine z.l8.g ?_;refine zd h (fun _ h=> ?_) (fun _ h=> ?_)
  ·refine z.s.c4.i8.f.g ?_;exact zq [(1004,1004)] hB h
  refine z.s.f5.g ?_;exact zq [(1004,1004)] hB h
 refine f_t ?_;refine zn h (fun _ h=> ?_) (fun _ h=> ?_)
 ·refine z.a6.c.g ?_;refine Z6 (e:=zG) [p] ?_;refine z.E.g ?_;apply za [(1074,1)] hB h
 refine z.o.i8.b.g ?_;refine zn h (fun _ h=> ?_) (fun _ h=> ?_)
 ·refine z.j8.g ?_;refine Jv (te:=54) (t:=6) 3006 3 ?_;apply za [(3006,1)] hB h
 refine z.d2.b.g ?_;refine zn h (fun _ h=> ?_) (fun _ h=> ?_)
 ·refine z.G.b.g ?_;refine zg [(1,108401)] [] h (fun _=>doc_Doc_Kids_ok) (fun v12 _ h=> ?_);refine l_frz 108401 ?_;refine zg [(1,108501)] [] h (fun _=>axis_list_ok) (fun v13 _ h=> ?_);refine l_to [(108501,108501)] ⟨[(85,.sl 108501 0 v13.length)],[(108501,.row 54 3 0 (F zG v13))],[]⟩ hB ?_;refine z.E.g ?_;apply za [(108501,1)] hB h
 refine z.d2.b.g ?_;refine zn h (fun _ h=> ?_) (fun _ h=> ?_)
 ·refine zaE ?_;refine qX [] (.q 0 (.q 1 (.q 2 (.q 3 (.q 4 (.q 5 (.e 6 (.e 7 (.q 8 .done))))))))) hm ?_;refine z.v.i5.l5.A.n0.d.m6.g ?_;refine n_call h (fun _=>doc_Doc_End_ok) (fun v14 _ h=> ?_);refine ge ?_;refine n_callXN [(1,109601)] [] h (fun _=>axis_run_ok) (fun v15 _ h=> ?_);refine z.B.h6.f2.k5.g ?_;apply za [(109601,1)] hB h
 refine z.d2.b.g ?_;refine zn h (fun _ h=> ?_) (fun _ h=> ?_)
 ·refine zaE ?_;refine qX [] (.q 0 (.q 1 (.q 2 (.q 3 (.q 4 (.e 5 (.e 6 (.q 7 .done)))))))) hm ?_;refine z.v.i5.l5.A.m6.g ?_;refine n_call h (fun _=>doc_Doc_End_ok) (fun v16 _ h=> ?_);refine ge ?_;refine n_callXN [(1,110601)] [] h (fun _=>axis_run_ok) (fun v17 _ h=> ?_);refine z.B.h6.f2.k5.g ?_;apply za [(110601,1)] hB h
 refine z.d2.b.g ?_;refine zn h (fun _ h=> ?_) (fun _ h=> ?_)
 ·refine z.G.b.g ?_;refine zg [(1,111301)] [] h (fun _=>point_Marks_ok) (fun v18 _ h=> ?_);refine z.E.g ?_;apply za [(111301,1)] hB h
 refine z.d2.b.g ?_;refine zn h (fun _ h=> ?_) (fun _ h=> ?_)
 ·refine z.G.b.g ?_;refine zg [(1,112001)] [] h (fun _=>point_Spaces_ok) (fun v19 _ h=> ?_);refine z.E.g ?_;apply za [(112001,1)] hB h
 refine z.e1.f0.Q.g ?_;refine Jv (te:=54) (t:=6) 3006 3 ?_;apply za [(3006,1)] hB h
theorem za0 {s:(List zk)}{r:(List zk)}(h:qt s=some r):XSpec Tryz.prog 92 [.sl 101 0 s.length] [(101,.row 54 3 0 (F zG s))] (.tup []) [(101,.row 54 3 0 (F zG r))] []:=by
 unfold qt at h;refine zc Tryz.hU Tryz.func92 (fun _ _ _ hB=> ?_);refine z.h8.D.R.I.b.g ?_;refine zF (fun y1=>⟨[(0,.sl 101 0 y1.2.2.length),(2,I y1.1),(3,I y1.2.1)],[(101,.row 54 3 0 (F zG y1.2.2))],[]⟩) (fun q8=>(.exit 0,⟨[],[(101,.row 54 3 0 (F zG q8))],[]⟩)) [(101,101)] hB h (fun y1 t h=> ?_) (fun q8 h=> ?_)
 ·unfold zW at h;refine z.i0.g ?_;refine zn h (fun _ h=> ?_) (fun _ h=> ?_)
  ·refine z.W.g ?_;refine qX [13,15] (.q 0 (.q 1 (.q 4 (.q 5 (.q 6 (.q 7 (.q 8 (.q 9 (.q 10 (.q 11 (.q 12 (.s 2 (.s 3 (.e 13 (.q 14 (.e 15 .done)))))))))))))))) hm ?_;refine z.e5.e9.e9.g ?_;refine zU h (fun v2 ev2 h=> ?_);refine gq ?_;refine Jt ev2 ?_;refine z.e5.g ?_;refine zU h (fun v3 ev3 h=> ?_);refine gq ?_;refine Jt ev3 ?_;refine gq ?_;refine zU h (fun v4 ev4 h=> ?_);refine z.v.j0.j0.g ?_;refine Ju ev4 h (fun v5 ev5 h=> ?_);refine zaM 16 v5.length ?_;refine gq ?_;refine zU h (fun v6 ev6 h=> ?_);refine ge ?_;refine Ju ev6 h (fun v7 ev7 h=> ?_);refine z.s.D.R.q2.m9.d9.g ?_;refine qj 0 v7.length ?_;exact zu [(101,101)] hB h
  refine z.l.g ?_;exact zr [(101,101)] hB h
 refine f_be ?_;apply za [(101,101)] hB h
theorem axis_Along_ok {d:(Option qg)}{p:zk}{axis:Int}{r:(List zk)}(h:qH d p axis=some r):XSpec Tryz.prog 53 [oP Zs d,.agg (zG p),I axis] [] (.sl 1 0 r.length) [(1,.row 54 3 0 (F zG r))] []:=by
 unfold qH at h;refine zc Tryz.hU Tryz.func53 (fun _ _ _ hB=> ?_);refine z.a6.J.l2.g ?_;refine zo h (fun _=>point_Has_ok) (fun v1 _ h=> ?_);refine z.f8.g ?_;refine zd h (fun _ h=> ?_) (fun _ h=> ?_)
 ·refine z.S.f9.k.g ?_;refine Jv (te:=54) (t:=6) 3006 3 ?_;apply za [(3006,1)] hB h
 refine z.f.g ?_;refine zo h (fun _=>axis_Name_ok) (fun v2 _ h=> ?_);refine z.c5.b4.a5.g ?_;refine zn h (fun _ h=> ?_) (fun _ h=> ?_)
 ·refine z.S.g ?_;refine Jv (te:=54) (t:=6) 3006 3 ?_;apply za [(3006,1)] hB h
 refine z.a.a6.t.g ?_;refine zg [(1,102001)] [] h (fun _=>axis_lead_ok) (fun v3 _ h=> ?_);refine z.F.J.g ?_;refine zd h (fun _ h=> ?_) (fun _ h=> ?_)
 ·refine z.m.f9.n.g ?_;refine zg [(101,102001)] [102001] h (fun _=>za0) (fun v4 _ h=> ?_);refine J9 h (fun ev5 h=> ?_);refine z.h.c1.g ?_;refine qj 6 v4.length ?_;apply za [(102001,1)] hB h
 refine z.c5.r.g ?_;refine zn h (fun _ h=> ?_) (fun _ h=> ?_)
 ·refine z.m.g ?_;refine zg [(101,102001)] [102001] h (fun _=>za0) (fun v6 _ h=> ?_);refine J9 h (fun ev7 h=> ?_);refine z.h.c1.g ?_;refine qj 6 v6.length ?_;apply za [(102001,1)] hB h
 refine z.h.t.g ?_;apply za [(102001,1)] hB h
theorem slices_Index_string_ok {s:(List Str)}{v_:Str}{r:Int}(h:Qp s v_=some r):XSpec Tryz.prog 146 [.vs s.length (F cS s),S v_] [] (I r) [] []:=by
 unfold Qp at h;refine zc Tryz.hU Tryz.func146 (fun _ _ _ hB=> ?_);refine z.d3.d6.g ?_;refine zF (fun y1=>⟨[(0,.vs s.length (F cS s)),(1,S v_),(7,I (s.length:Int)),(8,I y1)],[],[]⟩) (Sum.elim (fun q3=>(.ret,⟨[(4,I q3)],[],[]⟩)) (fun q4=>(.exit 0,⟨[],[],[]⟩))) [] hB h (fun y1 t h=> ?_) (fun q h=> ?_)
 ·unfold JY at h;refine z.a8.g ?_;refine zn h (fun _ h=> ?_) (fun _ h=> ?_)
  ·refine z.a.O.j7.g ?_;refine Qh h (fun v2 _ h=> ?_);refine z.e.b4.h7.g ?_;refine zn h (fun _ h=> ?_) (fun _ h=> ?_)
   ·refine z.E.b.g ?_;exact zr [] hB h
   refine z.d8.g ?_;exact zu [] hB h
  refine z.l.g ?_;exact zr [] hB h
 rcases q with q3|q4
 ·dsimp only [Sum.elim] at h ⊢
  refine z.B.g ?_;apply za [] hB h
 dsimp only [Sum.elim] at h ⊢
 refine z.l7.g ?_;apply za [] hB h
theorem axis_Of_ok {name:Str}{r:Int×Bool}(h:axis_Of name=some r):XSpec Tryz.prog 89 [S name] [] (.tup [I r.1,B r.2]) [] []:=by
 unfold axis_Of at h;refine zc Tryz.hU Tryz.func89 (fun _ _ _ hB=> ?_);refine z.c.o.a7.g ?_;refine zg [(1,100501)] [] h (fun _=>axis_names_ok) (fun v1 _ h=> ?_);refine l_move ?_;refine l_callB h (fun _=>slices_Index_string_ok) (fun v2 _ h=> ?_);refine z.N.d7.a.t9.w.g ?_;apply za [] hB h
theorem zaV {r:Bool}(h:Zw=some r):XSpec Tryz.prog 52 [] [] (B r) [] []:=by
 unfold Zw at h;refine zc Tryz.hU Tryz.func52 (fun _ _ _ hB=> ?_);refine z.c.o.c.g ?_;refine l_litb [60,97,32,98,61,39,49,39,47,62] ?_;refine l_frz 1007 ?_;refine zo h (fun _=>parse_Parse_ok) (fun v1 _ h=> ?_);refine z.f1.w.b7.g ?_;refine zg [(1,101401)] [] h (fun _=>axis_Along_ok) (fun v2 _ h=> ?_);refine z.c.o.g ?_;refine zo h (fun _=>axis_Of_ok) (fun v3 _ h=> ?_);refine z.F.w.b7.g ?_;refine zd h (fun _ h=> ?_) (fun _ h=> ?_)
 ·refine z.a2.c7.I.f.g ?_;refine zd h (fun _ h=> ?_) (fun _ h=> ?_)
  ·refine z.f.g ?_;refine QT h (fun v4 ev4 h=> ?_);refine l_on ?_;refine l_ldra ev4 ?_;refine z.j9.a5.g ?_;refine l_eqs (k:= .i64) (zk.ints v4) (zk.ints (zk.mk 1 0 0)) hs54 he54 ?_;refine z.a2.g ?_;refine zd h (fun _ h=> ?_) (fun _ h=> ?_)
   ·refine z.a2.r.g ?_;refine zd h (fun _ h=> ?_) (fun _ h=> ?_)
    ·refine z.c3.x.g ?_;apply za [] hB h
    refine z.b9.b5.g ?_;apply za [] hB h
   refine z.b9.b5.p.n.g ?_;apply za [] hB h
  refine z.b9.b5.p.n.p.b5.j.g ?_;apply za [] hB h
 refine z.b9.b5.p.n.p.b5.i9.k.g ?_;apply za [] hB h
theorem apostilleref10_In_ok {l:(List zk)}{p:zk}{r:Bool}(h:qd l p=some r):XSpec Tryz.prog 56 [.vs l.length (F zG l),.agg (zG p)] [] (B r) [] []:=by
 unfold qd at h;refine zc Tryz.hU Tryz.func56 (fun _ _ _ hB=> ?_);refine z.d3.J.l2.g ?_;refine zF (fun y1=>⟨[(0,.vs l.length (F zG l)),(3,.ptr 1003 0),(7,I (l.length:Int)),(8,I y1)],[(1003,.box 54 [I p.N,I p.Part,I p.I])],[]⟩) (Sum.elim (fun q3=>(.ret,⟨[(4,B true)],[],[]⟩)) (fun q4=>(.exit 0,⟨[],[],[]⟩))) [(1003,1003)] hB h (fun y1 t h=> ?_) (fun q h=> ?_)
 ·unfold qS at h;refine z.a8.g ?_;refine zn h (fun _ h=> ?_) (fun _ h=> ?_)
  ·refine z.b1.j7.g ?_;refine qX [] (.q 0 (.q 1 (.q 2 (.q 3 (.q 4 (.q 5 .done)))))) hm ?_;refine z.e5.g ?_;refine n_at h (fun v2 _ h=> ?_);refine z.d.n5.d.n5.d.g ?_;refine n_eqs (k:= .i64) (zk.ints v2) (zk.ints p) hs54 he54 ?_;refine z.f2.g ?_;refine zn h (fun _ h=> ?_) (fun _ h=> ?_)
   ·refine z.j8.g ?_;exact zr [] hB h
   refine z.d8.g ?_;exact zu [(1003,1003)] hB h
  refine z.l.g ?_;exact zr [] hB h
 rcases q with q3|q4
 ·dsimp only [Sum.elim] at h ⊢
  refine z.B.g ?_;apply za [] hB h
 dsimp only [Sum.elim] at h ⊢
 refine z.l7.g ?_;apply za [] hB h
theorem apostillelaw13_AxisTurns_ok {b:Str}{n:Int}{m:Int}{r:Bool}(h:Z1 b n m=some r):XSpec Tryz.prog 14 [.vs b.length (F cU b),I n,I m] [] (B r) [] []:=by
 unfold Z1 at h;refine zc Tryz.hU Tryz.func14 (fun _ _ _ hB=> ?_);refine z.f3.c.g ?_;refine qQ (fun q2=>(.normal,⟨[(0,.vs b.length (F cU b)),(1,I n),(2,I m),(19,B q2)],[],[]⟩)) h (fun t h=> ?_) (fun q2 h=> ?_)
 ·refine k_reg ?_;refine zo h (fun _=>zaV) (fun v1 _ h=> ?_);refine z.f8.g ?_;refine zd h (fun _ h=> ?_) (fun _ h=> ?_)
  ·refine z.P.k.g ?_;exact zq [] hB h
  refine z.c8.c7.I.f.g ?_;exact zq [] hB h
 refine f_t ?_;refine zn h (fun _ h=> ?_) (fun _ h=> ?_)
 ·refine z.c.g ?_;refine zo h (fun _=>zaV) (fun v3 _ h=> ?_);refine z.h4.h.g ?_;apply za [] hB h
 refine z.t.g ?_;refine zo h (fun _=>parse_Parse_ok) (fun v4 _ h=> ?_);refine z.f3.b7.g ?_;refine qQ (fun q7=>(.normal,⟨[(1,I n),(2,I m),(7,oP Zs v4.1),(8,I v4.2),(47,B q7)],[],[]⟩)) h (fun t h=> ?_) (fun q7 h=> ?_)
 ·refine z.l8.g ?_;refine zd h (fun _ h=> ?_) (fun _ h=> ?_)
  ·refine z.P.K.K.n.a2.n.g ?_;exact zq [] hB h
  refine z.p.r.g ?_;refine zd h (fun _ h=> ?_) (fun _ h=> ?_)
  ·refine z.P.K.K.n.g ?_;exact zq [] hB h
  refine z.p.r.g ?_;refine zd h (fun _ h=> ?_) (fun _ h=> ?_)
  ·refine z.P.e6.g ?_;exact zq [] hB h
  refine z.f.x.g ?_;refine zo h (fun _=>JG) (fun v5 _ h=> ?_);refine z.p.c7.g ?_;refine zd h (fun _ h=> ?_) (fun _ h=> ?_)
  ·refine z.P.j.g ?_;exact zq [] hB h
  refine z.f.x.g ?_;refine zo h (fun _=>JG) (fun v6 _ h=> ?_);refine l_to [] ⟨[(1,I n),(2,I m),(7,oP Zs v4.1),(8,I v4.2),(42,B false),(43,I m),(45,I v6)],[],[]⟩ hB ?_;refine z.c8.c7.g ?_;exact zq [] hB h
 refine f_t ?_;refine zn h (fun _ h=> ?_) (fun _ h=> ?_)
 ·refine zaE ?_;refine qQ (fun q8=>(.normal,⟨[(6,B q8)],[],[]⟩)) h (fun t h=> ?_) (fun q8 h=> ?_)
  ·refine z.l8.g ?_;refine zd h (fun _ h=> ?_) (fun _ h=> ?_)
   ·refine z.s.c4.n.g ?_;exact zq [] hB h
   refine z.s.l3.s2.f.g ?_;exact zq [] hB h
  refine z.h4.h6.e0.g ?_;apply za [] hB h
 refine z.p6.p6.p6.p6.p6.c.T.e7.k9.d1.d1.f1.a.f1.t.g ?_;refine Z6 (e:=c_TAnon) [(ZE.mk 3 5),(ZE.mk 4 6),(ZE.mk 11 12),(ZE.mk 9 10),(ZE.mk 1 2)] ?_;refine z.d3.g ?_;refine zF (fun y9=>⟨[(7,oP Zs v4.1),(9,.ptr 1009 0),(10,.ptr 1010 0),(63,.sl 1063 0 ([(ZE.mk 3 5),(ZE.mk 4 6),(ZE.mk 11 12),(ZE.mk 9 10),(ZE.mk 1 2)].length)),(64,I ([(ZE.mk 3 5),(ZE.mk 4 6),(ZE.mk 11 12),(ZE.mk 9 10),(ZE.mk 1 2)].length:Int)),(65,I y9)],[(1009,.box 54 [I n,I 0,I 0]),(1010,.box 54 [I m,I 0,I 0]),(1063,.row 91 2 0 (F c_TAnon [(ZE.mk 3 5),(ZE.mk 4 6),(ZE.mk 11 12),(ZE.mk 9 10),(ZE.mk 1 2)]))],[]⟩) (Sum.elim (fun q15=>(.ret,⟨[(6,B false)],[],[]⟩)) (fun q16=>(.exit 0,⟨[],[],[]⟩))) [(1009,1009),(1010,1010),(1063,1063)] hB h (fun y9 t h=> ?_) (fun q h=> ?_)
 ·unfold ql at h;refine z.a8.g ?_;refine zn h (fun _ h=> ?_) (fun _ h=> ?_)
  ·refine z.c.W.g ?_;refine QT h (fun v10 ev10 h=> ?_);refine l_ldra ev10 ?_;refine z.T.e7.d1.g ?_;refine qX [] (.q 0 (.q 1 (.q 2 (.q 3 (.q 5 (.q 7 (.q 8 (.q 9 (.q 10 (.q 12 (.e 4 (.e 6 (.e 11 (.e 13 (.q 14 .done))))))))))))))) hm ?_;refine z.d.n5.A.g ?_;refine n_aix 0 ?_;refine z.d.n5.A.n5.d.i5.g ?_;refine n_aix 1 ?_;refine z.v.n5.d.i5.g ?_;refine zI [(1,107301)] [] h (fun _=>axis_Along_ok) (fun v11 _ h=> ?_);refine ge ?_;refine n_callB h (fun _=>apostilleref10_In_ok) (fun v12 _ h=> ?_);refine ge ?_;refine zI [(1,108001)] [] h (fun _=>axis_Along_ok) (fun v13 _ h=> ?_);refine ge ?_;refine n_callB h (fun _=>apostilleref10_In_ok) (fun v14 _ h=> ?_);refine z.f2.u0.d.g ?_;refine zn h (fun _ h=> ?_) (fun _ h=> ?_)
   ·refine z.j8.g ?_;exact zr [] hB h
   refine z.d8.g ?_;exact zu [(1009,1009),(1010,1010),(1063,1063)] hB h
  refine z.l.g ?_;exact zr [] hB h
 rcases q with q15|q16
 ·dsimp only [Sum.elim] at h ⊢
  refine z.B.g ?_;apply za [] hB h
 dsimp only [Sum.elim] at h ⊢
 refine z.l7.g ?_;apply za [] hB h
end Go.Proofs.YtojbjdcflgeibaaGreatDoor
