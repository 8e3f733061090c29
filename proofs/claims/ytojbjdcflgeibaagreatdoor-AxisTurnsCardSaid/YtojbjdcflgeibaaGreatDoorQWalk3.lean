/- WALKS, printed by aw.py: that the program's functions compute the plain ones. Conditions: none. -/
import Derived.Test.YtojbjdcflgeibaaGreatDoorQWalk2
set_option linter.unusedVariables false
set_option linter.unusedSimpArgs false
set_option maxRecDepth 20000
set_option maxHeartbeats 4000000
namespace Go.Proofs.YtojbjdcflgeibaaGreatDoor
open Go Go.Abs W G
theorem doc_formed_ok {l:(List zf)}{n:Int}{last:Int}{r:Bool}(h:zaS l n last=some r):XSpec Tryz.prog 173 [.vs l.length (F zm l),I n,I last] [] (B r) [] []:=by
 unfold zaS at h;refine zc Tryz.hU Tryz.func173 (fun _ _ _ hB=> ?_);refine z.k6.g ?_;refine Qh h (fun v1 _ h=> ?_);refine z.d2.c.m4.e2.T.e7.d1.a6.g ?_;refine zn h (fun _ h=> ?_) (fun _ h=> ?_)
 ·refine z.a.b4.e2.g ?_;refine zd h (fun _ h=> ?_) (fun _ h=> ?_)
  ·refine z.H.g ?_;refine zo h (fun _=>doc_declared_ok) (fun v2 _ h=> ?_);refine z.a2.g ?_;refine zd h (fun _ h=> ?_) (fun _ h=> ?_)
   ·refine z.f.x.g ?_;refine zo h (fun _=>doc_named_ok) (fun v3 _ h=> ?_);refine l_to [] ⟨[(25,B true),(28,B v3)],[],[]⟩ hB ?_;refine z.E.c4.g ?_;apply za [] hB h
   refine z.E.l3.k.g ?_;apply za [] hB h
  refine z.E.l3.k.p.k.g ?_;apply za [] hB h
 refine z.d2.c.g ?_;refine zn h (fun _ h=> ?_) (fun _ h=> ?_)
 ·refine z.a6.c.g ?_;refine zo h (fun _=>doc_bare_ok) (fun v4 _ h=> ?_);refine l_move ?_;refine zd h (fun _ h=> ?_) (fun _ h=> ?_)
  ·refine z.a2.k2.g ?_;refine zd h (fun _ h=> ?_) (fun _ h=> ?_)
   ·refine z.a2.j5.H.g ?_;refine zd h (fun _ h=> ?_) (fun _ h=> ?_)
    ·refine z.H.g ?_;refine zo h (fun _=>JH) (fun v5 _ h=> ?_);refine l_to [] ⟨[(0,.vs l.length (F zm l)),(2,I last),(44,B true),(47,B v5)],[],[]⟩ hB ?_;refine z.a2.g ?_;refine zd h (fun _ h=> ?_) (fun _ h=> ?_)
     ·refine z.x.r.g ?_;refine zd h (fun _ h=> ?_) (fun _ h=> ?_)
      ·refine z.E.c4.j3.n.j.g ?_;apply za [] hB h
      refine z.f.x.g ?_;refine Qh h (fun v6 _ h=> ?_);refine z.E.c4.j4.d7.H.g ?_;apply za [] hB h
     refine z.E.f5.j.j.g ?_;apply za [] hB h
    refine z.E.f5.j.i9.k.g ?_;apply za [] hB h
   refine z.E.f5.j.i9.k.p.k.g ?_;apply za [] hB h
  refine z.E.f5.j.i9.k.p.k.p.k.g ?_;apply za [] hB h
 refine z.d2.c.g ?_;refine zn h (fun _ h=> ?_) (fun _ h=> ?_)
 ·refine z.a6.c.g ?_;refine zo h (fun _=>doc_bare_ok) (fun v7 _ h=> ?_);refine l_move ?_;refine zd h (fun _ h=> ?_) (fun _ h=> ?_)
  ·refine z.a2.k2.g ?_;refine zd h (fun _ h=> ?_) (fun _ h=> ?_)
   ·refine z.H.g ?_;refine zo h (fun _=>JH) (fun v8 _ h=> ?_);refine l_to [(1007,1007)] ⟨[(7,.ptr 1007 0),(70,B true),(73,B v8)],[(1007,.box 48 [I v1.Kind,I v1.Parent,S v1.Prefix,S v1.Local,S v1.URI,S v1.Text,.vs v1.Decls.length (F zl v1.Decls),.vs v1.Attrs.length (F qp v1.Attrs)])],[]⟩ hB ?_;refine z.a2.g ?_;refine zd h (fun _ h=> ?_) (fun _ h=> ?_)
    ·refine z.H.g ?_;refine zo h (fun _=>ZN) (fun v9 _ h=> ?_);refine z.a2.Z.g ?_;refine zd h (fun _ h=> ?_) (fun _ h=> ?_)
     ·refine z.H.g ?_;refine zo h (fun _=>strings_HasSuffix_ok) (fun v10 _ h=> ?_);refine l_to [] ⟨[(81,B true),(84,B v10)],[],[]⟩ hB ?_;refine z.E.c4.Z.g ?_;apply za [] hB h
     refine z.E.l3.j.g ?_;apply za [] hB h
    refine z.E.l3.i9.j.g ?_;apply za [] hB h
   refine z.E.l3.i9.i9.k.g ?_;apply za [] hB h
  refine z.E.l3.i9.i9.k.p.k.g ?_;apply za [] hB h
 refine z.d2.c.g ?_;refine zn h (fun _ h=> ?_) (fun _ h=> ?_)
 ·refine zaE ?_;refine qQ (fun q13=>(.normal,⟨[(7,.ptr 1007 0),(8,B q13)],[(1007,.box 48 [I v1.Kind,I v1.Parent,S v1.Prefix,S v1.Local,S v1.URI,S v1.Text,.vs v1.Decls.length (F zl v1.Decls),.vs v1.Attrs.length (F qp v1.Attrs)])],[]⟩)) h (fun t h=> ?_) (fun q13 h=> ?_)
  ·refine z.a.j5.G.o1.g ?_;refine zd h (fun _ h=> ?_) (fun _ h=> ?_)
   ·refine z.H.g ?_;refine QI h (fun v11 _ h=> ?_);refine l_on ?_;refine zo h (fun _=>zaH) (fun v12 _ h=> ?_);refine z.s.c4.g ?_;exact zq [(1007,1007)] hB h
   refine z.s.l3.j.g ?_;exact zq [(1007,1007)] hB h
  refine z.a6.c.e0.g ?_;refine zo h (fun _=>doc_bare_ok) (fun v14 _ h=> ?_);refine l_move ?_;refine zd h (fun _ h=> ?_) (fun _ h=> ?_)
  ·refine z.H.g ?_;refine zo h (fun _=>QM) (fun v15 _ h=> ?_);refine l_to [(1007,1007)] ⟨[(7,.ptr 1007 0),(8,B q13),(100,B true),(103,B v15)],[(1007,.box 48 [I v1.Kind,I v1.Parent,S v1.Prefix,S v1.Local,S v1.URI,S v1.Text,.vs v1.Decls.length (F zl v1.Decls),.vs v1.Attrs.length (F qp v1.Attrs)])],[]⟩ hB ?_;refine z.a2.g ?_;refine zd h (fun _ h=> ?_) (fun _ h=> ?_)
   ·refine z.H.g ?_;refine zo h (fun _=>doc_target_ok) (fun v16 _ h=> ?_);refine z.a2.Z.g ?_;refine zd h (fun _ h=> ?_) (fun _ h=> ?_)
    ·refine z.H.g ?_;refine zo h (fun _=>JH) (fun v17 _ h=> ?_);refine l_to [(1007,1007)] ⟨[(7,.ptr 1007 0),(8,B q13),(111,B true),(114,B v17)],[(1007,.box 48 [I v1.Kind,I v1.Parent,S v1.Prefix,S v1.Local,S v1.URI,S v1.Text,.vs v1.Decls.length (F zl v1.Decls),.vs v1.Attrs.length (F qp v1.Attrs)])],[]⟩ hB ?_;refine z.a2.g ?_;refine zd h (fun _ h=> ?_) (fun _ h=> ?_)
     ·refine z.H.g ?_;refine zo h (fun _=>ZN) (fun v18 _ h=> ?_);refine z.a2.Z.g ?_;refine zd h (fun _ h=> ?_) (fun _ h=> ?_)
      ·refine z.E.c4.i8.f.g ?_;apply za [] hB h
      refine z.E.f5.g ?_;apply za [] hB h
     refine z.E.f5.p.j.g ?_;apply za [] hB h
    refine z.E.f5.p.i9.k.g ?_;apply za [] hB h
   refine z.E.f5.p.i9.k.p.j.g ?_;apply za [] hB h
  refine z.E.f5.p.i9.k.p.i9.k.g ?_;apply za [] hB h
 refine z.e1.f0.Q.g ?_;apply za [] hB h
theorem doc_under_ok {x:zf}{r:Bool}(h:doc_under x=some r):XSpec Tryz.prog 174 [.agg (zm x)] [] (B r) [] []:=by
 unfold doc_under at h;refine zc Tryz.hU Tryz.func174 (fun _ _ _ hB=> ?_);refine z.F.e2.o.l2.g ?_;refine zd h (fun _ h=> ?_) (fun _ h=> ?_)
 ·refine z.c3.k.g ?_;apply za [] hB h
 refine z.b9.d7.H.g ?_;apply za [] hB h
theorem doc_check_ok {l:(List zf)}{r:Int×Bool}(h:zaz l=some r):XSpec Tryz.prog 111 [.vs l.length (F zm l)] [] (.tup [I r.1,B r.2]) [] []:=by
 unfold zaz at h;refine zc Tryz.hU Tryz.func111 (fun _ _ _ hB=> ?_);refine z.f3.a7.g ?_;refine qQ (fun q7=>(.normal,⟨[(0,.vs l.length (F zm l)),(45,B q7)],[],[]⟩)) h (fun t h=> ?_) (fun q7 h=> ?_)
 ·refine z.F.I.m.g ?_;refine zd h (fun _ h=> ?_) (fun _ h=> ?_)
  ·refine z.P.b5.K.b5.K.b5.K.b5.K.b5.j.g ?_;exact zq [] hB h
  refine z.f.g ?_;refine Qh h (fun v1 _ h=> ?_);refine z.p.d7.H.g ?_;refine zd h (fun _ h=> ?_) (fun _ h=> ?_)
  ·refine z.P.b5.K.b5.K.b5.K.b5.j.g ?_;exact zq [] hB h
  refine z.f.g ?_;refine Qh h (fun v2 _ h=> ?_);refine z.p.d7.H.g ?_;refine zd h (fun _ h=> ?_) (fun _ h=> ?_)
  ·refine z.P.b5.K.b5.K.b5.j.g ?_;exact zq [] hB h
  refine z.f.g ?_;refine Qh h (fun v3 _ h=> ?_);refine z.a5.a6.a5.g ?_;refine zo h (fun _=>doc_bare_ok) (fun v4 _ h=> ?_);refine z.p.Z.g ?_;refine zd h (fun _ h=> ?_) (fun _ h=> ?_)
  ·refine z.P.b5.K.b5.j.g ?_;exact zq [] hB h
  refine z.f.g ?_;refine Qh h (fun v5 _ h=> ?_);refine z.p.j5.H.g ?_;refine zd h (fun _ h=> ?_) (fun _ h=> ?_)
  ·refine z.P.b5.j.g ?_;exact zq [] hB h
  refine z.f.g ?_;refine Qh h (fun v6 _ h=> ?_);refine z.c8.j5.H.g ?_;exact zq [] hB h
 refine f_t ?_;refine zn h (fun _ h=> ?_) (fun _ h=> ?_)
 ·refine z.U.g ?_;apply za [] hB h
 refine z.I.t.g ?_;refine l_make (e:=cI) (z:=0) h (fun v8 ev8 h=> ?_);refine z.d3.J.g ?_;refine zF (fun y9=>⟨[(0,.vs l.length (F zm l)),(4,.sl 1048 0 y9.2.length),(50,I (v8.length:Int)),(51,I y9.1)],[(1048,.row 3 1 0 (F cI y9.2))],[]⟩) (fun q12=>(.exit 0,⟨[(0,.vs l.length (F zm l)),(4,.sl 1048 0 q12.length)],[(1048,.row 3 1 0 (F cI q12))],[]⟩)) [(1048,1048)] hB h (fun y9 t h=> ?_) (fun q12 h=> ?_)
 ·unfold Q3 at h;refine z.a8.g ?_;refine zn h (fun _ h=> ?_) (fun _ h=> ?_)
  ·refine z.y.o.j7.g ?_;refine QT h (fun v10 ev10 h=> ?_);refine l_put0 ev10 h (fun v11 ev11 h=> ?_);refine z.e4.d5.g ?_;refine qj 4 v11.length ?_;exact zu [(1048,1048)] hB h
  refine z.l.g ?_;exact zr [(1048,1048)] hB h
 refine z.h8.c.k4.c2.g ?_;refine zF (fun y13=>⟨[(0,.vs l.length (F zm l)),(4,.sl 1048 0 y13.2.2.length),(6,I y13.1),(7,I y13.2.1)],[(1048,.row 3 1 0 (F cI y13.2.2))],[]⟩) (Sum.elim (fun q32=>(.ret,⟨[(2,I 0),(3,B false)],[],[]⟩)) (fun q33=>(.exit 2,⟨[(6,I q33)],[],[]⟩))) [(1048,1048)] hB h (fun y13 t h=> ?_) (fun q h=> ?_)
 ·unfold zE at h;refine z.q.I.m5.g ?_;refine zn h (fun _ h=> ?_) (fun _ h=> ?_)
  ·refine z.T.T.W.g ?_;refine qQ (fun q20=>(.normal,⟨[(0,.vs l.length (F zm l)),(4,.sl 1048 0 y13.2.2.length),(6,I y13.1),(7,I y13.2.1),(89,B q20)],[(1048,.row 3 1 0 (F cI y13.2.2))],[]⟩)) h (fun t h=> ?_) (fun q20 h=> ?_)
   ·refine z.y.g ?_;refine zo h (fun _=>doc_stands_ok) (fun v14 _ h=> ?_);refine z.f8.g ?_;refine zd h (fun _ h=> ?_) (fun _ h=> ?_)
    ·refine z.P.n.e6.j.j.g ?_;exact zq [(1048,1048)] hB h
    refine z.f.x.x.x.x.g ?_;refine Qh h (fun v15 _ h=> ?_);refine z.H.g ?_;refine QT h (fun v16 ev16 h=> ?_);refine l_on ?_;refine Q7 ev16 ?_;refine l_on ?_;refine zo h (fun _=>doc_formed_ok) (fun v17 _ h=> ?_);refine z.p.Z.g ?_;refine zd h (fun _ h=> ?_) (fun _ h=> ?_)
    ·refine z.P.n.j.g ?_;exact zq [(1048,1048)] hB h
    refine z.f.x.g ?_;refine Qh h (fun v18 _ h=> ?_);refine z.a5.a6.a5.g ?_;refine zo h (fun _=>doc_under_ok) (fun v19 _ h=> ?_);refine z.c8.Z.g ?_;exact zq [(1048,1048)] hB h
   refine f_t ?_;refine zn h (fun _ h=> ?_) (fun _ h=> ?_)
   ·refine z.B.U.g ?_;exact zr [] hB h
   refine z.i.e3.g ?_;refine Qh h (fun v21 _ h=> ?_);refine z.F.G.g ?_;refine zd h (fun _ h=> ?_) (fun _ h=> ?_)
   ·refine z.f.x.g ?_;refine Qh h (fun v22 _ h=> ?_);refine z.i7.d7.H.g ?_;refine zn h (fun _ h=> ?_) (fun _ h=> ?_)
    ·refine z.q.V.g ?_;refine zn h (fun _ h=> ?_) (fun _ h=> ?_)
     ·refine z.B.h4.U.g ?_;exact zr [] hB h
     refine z.a.y.o.m.M.g ?_;refine Qh h (fun v23 _ h=> ?_);refine z.a.G.g ?_;refine QT h (fun v24 ev24 h=> ?_);refine l_put0 ev24 h (fun v25 ev25 h=> ?_);refine z.k0.d5.g ?_;refine qj 4 v25.length ?_;exact zu [(1048,1048)] hB h
    refine z.a.y.M.g ?_;refine Qh h (fun v26 _ h=> ?_);refine z.a.G.g ?_;refine QT h (fun v27 ev27 h=> ?_);refine l_put0 ev27 h (fun v28 ev28 h=> ?_);refine z.k0.d5.g ?_;refine qj 4 v28.length ?_;exact zu [(1048,1048)] hB h
   refine z.a.y.M.i1.n.j.g ?_;refine Qh h (fun v29 _ h=> ?_);refine z.a.G.g ?_;refine QT h (fun v30 ev30 h=> ?_);refine l_put0 ev30 h (fun v31 ev31 h=> ?_);refine z.k0.d5.g ?_;refine qj 4 v31.length ?_;exact zu [(1048,1048)] hB h
  refine z.l.g ?_;exact zr [] hB h
 rcases q with q32|q33
 ·dsimp only [Sum.elim] at h ⊢
  refine z.B.g ?_;apply za [] hB h
 dsimp only [Sum.elim] at h ⊢
 refine z.N.d7.i.c2.g ?_;apply za [] hB h
theorem doc_within_ok {l:(List zf)}{r:Bool}(h:zaT l=some r):XSpec Tryz.prog 112 [.vs l.length (F zm l)] [] (B r) [] []:=by
 unfold zaT at h;refine zc Tryz.hU Tryz.func112 (fun _ _ _ hB=> ?_);refine z.q.I.d6.g ?_;refine zn h (fun _ h=> ?_) (fun _ h=> ?_)
 ·refine z.S.g ?_;apply za [] hB h
 refine z.I.t.g ?_;refine l_make (e:=cI) (z:=0) h (fun v1 ev1 h=> ?_);refine z.d3.J.g ?_;refine zF (fun y2=>⟨[(3,.sl 1011 0 y2.2.length),(12,.vs l.length (F zm l)),(13,I (l.length:Int)),(14,I y2.1)],[(1011,.row 3 1 0 (F cI y2.2))],[]⟩) (Sum.elim (fun q9=>(.ret,⟨[(2,B false)],[],[]⟩)) (fun q10=>(.exit 0,⟨[],[],[]⟩))) [(1011,1011)] hB h (fun y2 t h=> ?_) (fun q h=> ?_)
 ·unfold zK at h;refine z.a8.g ?_;refine zn h (fun _ h=> ?_) (fun _ h=> ?_)
  ·refine z.j7.g ?_;refine Qh h (fun v3 _ h=> ?_);refine z.q.V.e7.D.d1.a6.g ?_;refine zn h (fun _ h=> ?_) (fun _ h=> ?_)
   ·refine z.G.a.y.g ?_;refine QT h (fun v4 ev4 h=> ?_);refine Q7 ev4 ?_;refine l_addw ?_;refine QT h (fun v5 ev5 h=> ?_);refine l_put0 ev5 h (fun v6 ev6 h=> ?_);refine z.i.e.g ?_;refine l_relen 30 v6.length ?_;refine QT h (fun v7 ev7 h=> ?_);refine Q7 ev7 ?_;refine z.F.g ?_;refine zd h (fun _ h=> ?_) (fun _ h=> ?_)
    ·refine z.f6.j.j.g ?_;exact zr [] hB h
    refine z.c5.c7.c9.a5.I.H.I.H.g ?_;refine zn h (fun _ h=> ?_) (fun _ h=> ?_)
    ·refine z.j8.g ?_;exact zr [] hB h
    refine z.d8.g ?_;refine qj 3 v6.length ?_;exact zu [(1011,1011)] hB h
   refine z.h5.g ?_;refine QT h (fun v8 ev8 h=> ?_);refine Q7 ev8 ?_;refine z.F.g ?_;refine zd h (fun _ h=> ?_) (fun _ h=> ?_)
   ·refine z.f6.j.j.g ?_;exact zr [] hB h
   refine z.c5.c7.c9.a5.I.H.I.H.g ?_;refine zn h (fun _ h=> ?_) (fun _ h=> ?_)
   ·refine z.j8.g ?_;exact zr [] hB h
   refine z.d8.g ?_;exact zu [(1011,1011)] hB h
  refine z.l.g ?_;exact zr [] hB h
 rcases q with q9|q10
 ·dsimp only [Sum.elim] at h ⊢
  refine z.B.g ?_;apply za [] hB h
 dsimp only [Sum.elim] at h ⊢
 refine z.l7.g ?_;apply za [] hB h
theorem slices_Clone_Decl_ok {s:(List zb)}{r:(List zb)}(h:Qa s=some r):XSpec Tryz.prog 133 [.vs s.length (F zl s)] [] (.sl 1 0 r.length) [(1,.row 39 2 0 (F zl r))] []:=by
 unfold Qa at h;refine zc Tryz.hU Tryz.func133 (fun _ _ _ hB=> ?_);refine z.d6.g ?_;refine l_eqnil (fun bv1 hbv1=> ?_);refine z.e.g ?_;refine k_nd (fun e0=> ?_) (fun _=> ?_)
 ·have e0:=List.eq_nil_of_length_eq_zero (hbv1 e0)
  try rw [e0] at h
  change (some [])=_ at h
  refine z.S.g ?_;refine Jv (te:=39) (t:=2) 3002 2 ?_;apply za [(3002,1)] hB h
 refine z.a.r8.c.M.g ?_;refine l_appf h (fun v2 _ h=> ?_);refine z.h.g ?_;apply za [(1005,1)] hB h
theorem slices_Clone_Attr_ok {s:(List zP)}{r:(List zP)}(h:zah s=some r):XSpec Tryz.prog 138 [.vs s.length (F qp s)] [] (.sl 1 0 r.length) [(1,.row 126 4 0 (F qp r))] []:=by
 unfold zah at h;refine zc Tryz.hU Tryz.func138 (fun _ _ _ hB=> ?_);refine z.d6.g ?_;refine l_eqnil (fun bv1 hbv1=> ?_);refine z.e.g ?_;refine k_nd (fun e0=> ?_) (fun _=> ?_)
 ·have e0:=List.eq_nil_of_length_eq_zero (hbv1 e0)
  try rw [e0] at h
  change (some [])=_ at h
  refine z.S.g ?_;refine Jv (te:=126) (t:=2) 3002 4 ?_;apply za [(3002,1)] hB h
 refine z.a.r8.c.M.g ?_;refine l_appf h (fun v2 _ h=> ?_);refine z.h.g ?_;apply za [(1005,1)] hB h
theorem doc_clone_ok {x:zf}{r:Int×Int×Str×Str×Str×Str×(List zb)×(List zP)}(h:doc_clone x=some r):XSpec Tryz.prog 76 [.agg (zm x)] [] (.agg [I r.1,I r.2.1,S r.2.2.1,S r.2.2.2.1,S r.2.2.2.2.1,S r.2.2.2.2.2.1,.sl 1 0 r.2.2.2.2.2.2.1.length,.sl 2 0 r.2.2.2.2.2.2.2.length]) [(1,.row 39 2 0 (F zl r.2.2.2.2.2.2.1)),(2,.row 126 4 0 (F qp r.2.2.2.2.2.2.2))] []:=by
 unfold doc_clone at h;refine zc Tryz.hU Tryz.func76 (fun _ _ _ hB=> ?_);refine z.T.e.d1.l2.g ?_;refine qX [7,9] (.q 0 (.q 1 (.q 3 (.q 4 (.e 2 (.q 6 (.e 5 (.e 7 (.q 8 (.e 9 .done)))))))))) hm ?_;refine z.v.m6.m6.g ?_;refine zI [(1,100501)] [] h (fun _=>slices_Clone_Decl_ok) (fun v1 _ h=> ?_);refine z.v.m2.g ?_;refine zI [(1,100801)] [] h (fun _=>slices_Clone_Attr_ok) (fun v2 _ h=> ?_);refine z.h6.e7.a6.c.f2.o2.v.m2.o2.v.g ?_;apply za [(100501,1),(100801,2)] hB h
theorem doc_Of_ok {l:(List zf)}{r:(Option qg)×Int}(h:doc_Of l=some r):XSpec Tryz.prog 62 [.vs l.length (F zm l)] [] (.tup [oP Zs r.1,I r.2]) [] []:=by
 unfold doc_Of at h;refine zc Tryz.hU Tryz.func62 (fun _ _ _ hB=> ?_);refine z.w.a7.g ?_;refine zo h (fun _=>doc_check_ok) (fun v1 _ h=> ?_);refine z.o.i8.b.c6.b1.b7.g ?_;refine zn h (fun _ h=> ?_) (fun _ h=> ?_)
 ·refine z.B.N.c.g ?_;apply k_retN [] hB h
 refine z.b.g ?_;refine zo h (fun _=>doc_within_ok) (fun v2 _ h=> ?_);refine z.o.i8.g ?_;refine zn h (fun _ h=> ?_) (fun _ h=> ?_)
 ·refine z.B.N.c.g ?_;apply k_retN [] hB h
 refine z.I.b.f0.Q.g ?_;refine l_make (e:=cI) (z:=0) h (fun v3 ev3 h=> ?_);refine z.d3.J.p1.f1.a.g ?_;refine k_nilcell (te:=48) (b1:=1028) (j:=0) 13280 8 ?_;refine zF (fun y4=>⟨[(0,.vs l.length (F zm l)),(6,.ptr 1028 0),(29,.vs l.length (F zm l)),(30,I (l.length:Int)),(31,I y4.1)],[(1028,.box 111 [.sl 13280 0 y4.2.length,.sl 1025 0 v3.length,I v1.1]),(13280,.row 48 8 0 (F zm y4.2)),(1025,.row 3 1 0 (F cI v3))],[]⟩) (fun q8=>(.exit 1,⟨[(0,.vs l.length (F zm l)),(6,.ptr 1028 0)],[(1028,.box 111 [.sl 13280 0 q8.length,.sl 1025 0 v3.length,I v1.1]),(13280,.row 48 8 0 (F zm q8)),(1025,.row 3 1 0 (F cI v3))],[]⟩)) [(1028,1028),(13280,13280),(1025,1025)] hB h (fun y4 t h=> ?_) (fun q8 h=> ?_)
 ·unfold za1 at h;refine z.a8.g ?_;refine zn h (fun _ h=> ?_) (fun _ h=> ?_)
  ·refine z.c.W.g ?_;refine Qh h (fun v5 _ h=> ?_);refine z.e7.d1.a6.g ?_;refine qX [8,11] (.q 1 (.q 2 (.q 3 (.q 4 (.q 5 (.s 0 (.e 6 (.e 7 (.e 8 (.q 9 (.q 10 (.e 11 .done)))))))))))) hm ?_;refine z.v.j0.n5.d.i2.g ?_;refine zI [(1,104101),(2,104102)] [] h (fun _=>doc_clone_ok) (fun v6 _ h=> ?_);refine m_frz 104101 ?_;refine m_frz 104102 ?_;refine ge ?_;refine n_lit (e:=zm) [(zf.mk v6.1 v6.2.1 v6.2.2.1 v6.2.2.2.1 v6.2.2.2.2.1 v6.2.2.2.2.2.1 v6.2.2.2.2.2.2.1 v6.2.2.2.2.2.2.2)] ?_;refine ge ?_;refine n_appo h (fun v7 _ h=> ?_);refine z.e4.d9.o2.v.m2.l1.d.g ?_;exact zu [(1028,1028),(13280,13280),(1025,1025)] hB h
  refine z.l.g ?_;exact zr [(1028,1028),(13280,13280),(1025,1025)] hB h
 refine z.h8.R.I.V.c2.g ?_;refine zF (fun y9=>⟨[(0,.vs l.length (F zm l)),(6,.ptr 1028 0),(9,I y9.1)],[(1028,.box 111 [.sl 13280 0 q8.length,.sl 1025 0 y9.2.length,I v1.1]),(13280,.row 48 8 0 (F zm q8)),(1025,.row 3 1 0 (F cI y9.2))],[]⟩) (fun q18=>(.exit 3,⟨[(6,.ptr 1028 0)],[(1028,.box 111 [.sl 13280 0 q8.length,.sl 1025 0 q18.length,I v1.1]),(13280,.row 48 8 0 (F zm q8)),(1025,.row 3 1 0 (F cI q18))],[]⟩)) [(1028,1028),(13280,13280),(1025,1025)] hB h (fun y9 t h=> ?_) (fun q18 h=> ?_)
 ·unfold za3 at h;refine z.q.V.g ?_;refine zn h (fun _ h=> ?_) (fun _ h=> ?_)
  ·refine z.T.W.g ?_;refine qX [16] (.q 0 (.q 1 (.q 2 (.q 3 (.q 4 (.q 5 (.q 6 (.q 7 (.q 8 (.q 9 (.q 10 (.q 11 (.q 12 (.q 13 (.q 14 (.q 15 (.e 16 .done))))))))))))))))) hm ?_;refine z.A.q8.e5.i2.g ?_;refine zU h (fun v10 ev10 h=> ?_);refine gq ?_;refine n_ldr0 ev10 ?_;refine z.d.r9.d.n0.A.g ?_;refine zU h (fun v11 ev11 h=> ?_);refine ge ?_;refine Ju ev11 h (fun v12 ev12 h=> ?_);refine z.i.f2.g ?_;refine Qh h (fun v13 _ h=> ?_);refine z.q.w.G.g ?_;refine zn h (fun _ h=> ?_) (fun _ h=> ?_)
   ·refine qX [21] (.q 0 (.q 1 (.q 2 (.q 3 (.q 4 (.q 5 (.q 6 (.q 7 (.q 8 (.q 9 (.q 10 (.q 11 (.q 12 (.q 13 (.q 14 (.q 15 (.q 16 (.q 17 (.q 18 (.q 19 (.q 20 (.e 21 .done)))))))))))))))))))))) hm ?_;refine z.e9.q8.e5.i2.g ?_;refine zaM 85 v12.length ?_;refine gq ?_;refine zU h (fun v14 ev14 h=> ?_);refine gq ?_;refine n_ldr0 ev14 ?_;refine z.e9.i2.g ?_;refine zaM 92 v12.length ?_;refine gq ?_;refine zU h (fun v15 ev15 h=> ?_);refine gq ?_;refine n_ldr0 ev15 ?_;refine z.r9.d.g ?_;refine zaM 80 v12.length ?_;refine gq ?_;refine zU h (fun v16 ev16 h=> ?_);refine ge ?_;refine Ju ev16 h (fun v17 ev17 h=> ?_);refine z.s.R.m9.d9.g ?_;refine f_relenc 1028 1 v17.length ?_;exact zu [(1028,1028),(13280,13280),(1025,1025)] hB h
   refine z.s.R.m9.Q.g ?_;refine f_relenc 1028 1 v12.length ?_;exact zu [(1028,1028),(13280,13280),(1025,1025)] hB h
  refine z.l.g ?_;exact zr [(1028,1028),(13280,13280),(1025,1025)] hB h
 refine z.N.k7.g ?_;refine f_frz 13280 ?_;refine f_frz 1025 ?_;refine f_frz 1028 ?_;apply za [] hB h
theorem zR {u1:Str}{u2:Bool}{u3:Bool}{u4:(List zf)}{u5:(List zv)}{u6:Str}{r:Bool×Str}(h:zD u1 u2 u3 u4 u5 u6=some r):XSpec Tryz.prog 100 [.ptr 26000101 0] [(26000101,.box 104 [S u1,.sl 26000102 0 u4.length,.sl 26000103 0 u5.length,.nptr u2 26000101 3,.sl 26000104 0 u6.length,B u3]),(26000102,.row 48 8 0 (F zm u4)),(26000103,.row 194 2 0 (F zt u5)),(26000104,.row 5 1 0 (F cU u6))] (B r.1) [(26000101,.box 104 [S r.2,.sl 26000102 0 u4.length,.sl 26000103 0 u5.length,.nptr u2 26000101 3,.sl 26000104 0 u6.length,B u3]),(26000102,.row 48 8 0 (F zm u4)),(26000103,.row 194 2 0 (F zt u5)),(26000104,.row 5 1 0 (F cU u6))] []:=by
 unfold zD at h;refine zc Tryz.hU Tryz.func100 (fun _ _ _ hB=> ?_);refine z.c6.k4.o.c.g ?_;refine zF (fun y1=>⟨[(0,.ptr 26000101 0),(3,I y1)],[(26000101,.box 104 [S u1,.sl 26000102 0 u4.length,.sl 26000103 0 u5.length,.nptr u2 26000101 3,.sl 26000104 0 u6.length,B u3]),(26000102,.row 48 8 0 (F zm u4)),(26000103,.row 194 2 0 (F zt u5)),(26000104,.row 5 1 0 (F cU u6))],[]⟩) (fun q4=>(.exit 0,⟨[(0,.ptr 26000101 0),(3,I q4)],[(26000101,.box 104 [S u1,.sl 26000102 0 u4.length,.sl 26000103 0 u5.length,.nptr u2 26000101 3,.sl 26000104 0 u6.length,B u3]),(26000102,.row 48 8 0 (F zm u4)),(26000103,.row 194 2 0 (F zt u5)),(26000104,.row 5 1 0 (F cU u6))],[]⟩)) [(26000101,26000101),(26000102,26000102),(26000103,26000103),(26000104,26000104)] hB h (fun y1 t h=> ?_) (fun q4 h=> ?_)
 ·unfold zY at h;refine z.F.a3.b2.m5.g ?_;refine zd h (fun _ h=> ?_) (fun _ h=> ?_)
  ·refine z.f.p8.a5.n8.f.g ?_;refine QI h (fun v2 _ h=> ?_);refine l_on ?_;refine zo h (fun _=>zaH) (fun v3 _ h=> ?_);refine z.i7.g ?_;refine zn h (fun _ h=> ?_) (fun _ h=> ?_)
   ·refine z.h2.l9.m.l6.g ?_;exact zu [(26000101,26000101),(26000102,26000102),(26000103,26000103),(26000104,26000104)] hB h
   refine z.l.g ?_;exact zr [(26000101,26000101),(26000102,26000102),(26000103,26000103),(26000104,26000104)] hB h
  refine z.l.i1.k.j.g ?_;exact zr [(26000101,26000101),(26000102,26000102),(26000103,26000103),(26000104,26000104)] hB h
 refine z.j6.i.c2.g ?_;refine ZF h (fun v5 _ h=> ?_);refine z.h.d7.b.m0.g ?_;apply za [(26000101,26000101),(26000102,26000102),(26000103,26000103),(26000104,26000104)] hB h
theorem zJ {u1:Str}{u2:Str}{u3:Bool}{u4:Bool}{u5:(List zf)}{u6:(List zv)}{u7:Str}{r:Bool×Str}(h:zz u1 u2 u3 u4 u5 u6 u7=some r):XSpec Tryz.prog 104 [.ptr 28000101 0,S u1] [(28000101,.box 104 [S u2,.sl 28000102 0 u5.length,.sl 28000103 0 u6.length,.nptr u3 28000101 3,.sl 28000104 0 u7.length,B u4]),(28000102,.row 48 8 0 (F zm u5)),(28000103,.row 194 2 0 (F zt u6)),(28000104,.row 5 1 0 (F cU u7))] (B r.1) [(28000101,.box 104 [S r.2,.sl 28000102 0 u5.length,.sl 28000103 0 u6.length,.nptr u3 28000101 3,.sl 28000104 0 u7.length,B u4]),(28000102,.row 48 8 0 (F zm u5)),(28000103,.row 194 2 0 (F zt u6)),(28000104,.row 5 1 0 (F cU u7))] []:=by
 unfold zz at h;refine zc Tryz.hU Tryz.func104 (fun _ _ _ hB=> ?_);refine z.j6.a1.g ?_;refine zo h (fun _=>zak) (fun v1 _ h=> ?_);refine z.e.J.b7.g ?_;refine zn h (fun _ h=> ?_) (fun _ h=> ?_)
 ·refine z.h.b.m0.y.g ?_;apply za [(28000101,28000101),(28000102,28000102),(28000103,28000103),(28000104,28000104)] hB h
 refine z.h.t.g ?_;apply za [(28000101,28000101),(28000102,28000102),(28000103,28000103),(28000104,28000104)] hB h
theorem Z2 {u1:Str}{u2:Str}{u3:Bool}{u4:Bool}{u5:(List zf)}{u6:(List zv)}{u7:Str}{r:Str×Bool×Str}(h:qo u1 u2 u3 u4 u5 u6 u7=some r):XSpec Tryz.prog 105 [.ptr 30000101 0,S u1] [(30000101,.box 104 [S u2,.sl 30000102 0 u5.length,.sl 30000103 0 u6.length,.nptr u3 30000101 3,.sl 30000104 0 u7.length,B u4]),(30000102,.row 48 8 0 (F zm u5)),(30000103,.row 194 2 0 (F zt u6)),(30000104,.row 5 1 0 (F cU u7))] (.tup [S r.1,B r.2.1]) [(30000101,.box 104 [S r.2.2,.sl 30000102 0 u5.length,.sl 30000103 0 u6.length,.nptr u3 30000101 3,.sl 30000104 0 u7.length,B u4]),(30000102,.row 48 8 0 (F zm u5)),(30000103,.row 194 2 0 (F zt u6)),(30000104,.row 5 1 0 (F cU u7))] []:=by
 unfold qo at h;refine zc Tryz.hU Tryz.func105 (fun _ _ _ hB=> ?_);refine z.j6.w.a7.g ?_;refine zo h (fun _=>Zk) (fun v1 _ h=> ?_);refine z.e.J.D.D.l0.k8.g ?_;refine zn h (fun _ h=> ?_) (fun _ h=> ?_)
 ·refine z.N.i.m0.y.g ?_;apply za [(30000101,30000101),(30000102,30000102),(30000103,30000103),(30000104,30000104)] hB h
 refine z.N.h5.g ?_;apply za [(30000101,30000101),(30000102,30000102),(30000103,30000103),(30000104,30000104)] hB h
theorem QW {u1:Str}{u2:Bool}{u3:Bool}{u4:(List zf)}{u5:(List zv)}{u6:Str}{r:Str×Bool×Str}(h:qy u1 u2 u3 u4 u5 u6=some r):XSpec Tryz.prog 159 [.ptr 29000101 0] [(29000101,.box 104 [S u1,.sl 29000102 0 u4.length,.sl 29000103 0 u5.length,.nptr u2 29000101 3,.sl 29000104 0 u6.length,B u3]),(29000102,.row 48 8 0 (F zm u4)),(29000103,.row 194 2 0 (F zt u5)),(29000104,.row 5 1 0 (F cU u6))] (.tup [S r.1,B r.2.1]) [(29000101,.box 104 [S r.2.2,.sl 29000102 0 u4.length,.sl 29000103 0 u5.length,.nptr u2 29000101 3,.sl 29000104 0 u6.length,B u3]),(29000102,.row 48 8 0 (F zm u4)),(29000103,.row 194 2 0 (F zt u5)),(29000104,.row 5 1 0 (F cU u6))] []:=by
 unfold qy at h;refine zc Tryz.hU Tryz.func159 (fun _ _ _ hB=> ?_);refine z.w.a7.g ?_;refine zg [(26000101,29000101),(26000102,29000102),(26000103,29000103),(26000104,29000104)] [29000101,29000102,29000103,29000104] h (fun _=>zR) (fun v1 _ h=> ?_);refine z.V.e.g ?_;refine zg [(28000101,29000101),(28000102,29000102),(28000103,29000103),(28000104,29000104)] [29000101,29000102,29000103,29000104] h (fun _=>zJ) (fun v2 _ h=> ?_);refine z.d4.g ?_;refine zn h (fun _ h=> ?_) (fun _ h=> ?_)
 ·refine z.U.g ?_;apply za [(29000101,29000101),(29000102,29000102),(29000103,29000103),(29000104,29000104)] hB h
 refine z.t.g ?_;refine zg [(26000101,29000101),(26000102,29000102),(26000103,29000103),(26000104,29000104)] [29000101,29000102,29000103,29000104] h (fun _=>zR) (fun v3 _ h=> ?_);refine z.T.T.e.g ?_;refine qQ (fun q6=>(.normal,⟨[(0,.ptr 29000101 0),(25,B q6)],[(29000101,.box 104 [S v3.2,.sl 29000102 0 u4.length,.sl 29000103 0 u5.length,.nptr u2 29000101 3,.sl 29000104 0 u6.length,B u3]),(29000102,.row 48 8 0 (F zm u4)),(29000103,.row 194 2 0 (F zt u5)),(29000104,.row 5 1 0 (F cU u6))],[]⟩)) h (fun t h=> ?_) (fun q6 h=> ?_)
 ·refine z.a.b4.b2.m.g ?_;refine zd h (fun _ h=> ?_) (fun _ h=> ?_)
  ·refine z.P.k.j.g ?_;exact zq [(29000101,29000101),(29000102,29000102),(29000103,29000103),(29000104,29000104)] hB h
  refine z.H.n8.f.g ?_;refine ZF h (fun v4 _ h=> ?_);refine l_on ?_;refine zo h (fun _=>ZN) (fun v5 _ h=> ?_);refine z.c8.Z.g ?_;exact zq [(29000101,29000101),(29000102,29000102),(29000103,29000103),(29000104,29000104)] hB h
 refine f_t ?_;refine zn h (fun _ h=> ?_) (fun _ h=> ?_)
 ·refine z.U.g ?_;apply za [(29000101,29000101),(29000102,29000102),(29000103,29000103),(29000104,29000104)] hB h
 refine z.b2.t.g ?_;refine ZF h (fun v7 _ h=> ?_);refine z.b2.O.g ?_;refine ZF h (fun v8 _ h=> ?_);refine z.i.m0.g ?_;refine zg [(30000101,29000101),(30000102,29000102),(30000103,29000103),(30000104,29000104)] [29000101,29000102,29000103,29000104] h (fun _=>Z2) (fun v9 _ h=> ?_);refine z.N.o0.g ?_;apply za [(29000101,29000101),(29000102,29000102),(29000103,29000103),(29000104,29000104)] hB h
theorem za2 {u1:Str}{u2:Str}{u3:Bool}{u4:Bool}{u5:(List zf)}{u6:(List zv)}{u7:Str}{u8:(List Str)}{r:Bool×Str}(h:Zu u1 u2 u3 u4 u5 u6 u7 u8=some r):XSpec Tryz.prog 102 [.ptr 27000101 0,S u1,.sl 27000105 0 u8.length] [(27000101,.box 104 [S u2,.sl 27000102 0 u5.length,.sl 27000103 0 u6.length,.nptr u3 27000101 3,.sl 27000104 0 u7.length,B u4]),(27000102,.row 48 8 0 (F zm u5)),(27000103,.row 194 2 0 (F zt u6)),(27000104,.row 5 1 0 (F cU u7)),(27000105,.row 9 1 0 (F cS u8))] (B r.1) [(27000101,.box 104 [S r.2,.sl 27000102 0 u5.length,.sl 27000103 0 u6.length,.nptr u3 27000101 3,.sl 27000104 0 u7.length,B u4]),(27000102,.row 48 8 0 (F zm u5)),(27000103,.row 194 2 0 (F zt u6)),(27000104,.row 5 1 0 (F cU u7)),(27000105,.row 9 1 0 (F cS u8))] []:=by
 unfold Zu at h;refine zc Tryz.hU Tryz.func102 (fun _ _ _ hB=> ?_);refine z.f3.b2.a1.g ?_;refine qQ (fun q3=>(.normal,⟨[(0,.ptr 27000101 0),(2,.sl 27000105 0 u8.length),(7,S u2),(24,B q3.1)],[(27000101,.box 104 [S q3.2,.sl 27000102 0 u5.length,.sl 27000103 0 u6.length,.nptr u3 27000101 3,.sl 27000104 0 u7.length,B u4]),(27000102,.row 48 8 0 (F zm u5)),(27000103,.row 194 2 0 (F zt u6)),(27000104,.row 5 1 0 (F cU u7)),(27000105,.row 9 1 0 (F cS u8))],[]⟩)) h (fun t h=> ?_) (fun q3 h=> ?_)
 ·refine z.m.g ?_;refine zg [(26000101,27000101),(26000102,27000102),(26000103,27000103),(26000104,27000104)] [27000101,27000102,27000103,27000104] h (fun _=>zR) (fun v1 _ h=> ?_);refine z.f8.g ?_;refine zd h (fun _ h=> ?_) (fun _ h=> ?_)
  ·refine z.P.j.g ?_;exact zq [(27000101,27000101),(27000102,27000102),(27000103,27000103),(27000104,27000104),(27000105,27000105)] hB h
  refine z.f.x.g ?_;refine zg [(28000101,27000101),(28000102,27000102),(28000103,27000103),(28000104,27000104)] [27000101,27000102,27000103,27000104] h (fun _=>zJ) (fun v2 _ h=> ?_);refine z.c8.Z.g ?_;exact zq [(27000101,27000101),(27000102,27000102),(27000103,27000103),(27000104,27000104),(27000105,27000105)] hB h
 refine f_t ?_;refine zn h (fun _ h=> ?_) (fun _ h=> ?_)
 ·refine z.S.m0.i.g ?_;apply za [(27000101,27000101),(27000102,27000102),(27000103,27000103),(27000104,27000104),(27000105,27000105)] hB h
 refine z.t.g ?_;refine zg [(29000101,27000101),(29000102,27000102),(29000103,27000103),(29000104,27000104)] [27000101,27000102,27000103,27000104] h (fun _=>QW) (fun v4 _ h=> ?_);refine z.d3.J.b7.g ?_;refine zF (fun y5=>⟨[(8,S v4.1),(9,B v4.2.1),(34,.sl 27000105 0 u8.length),(35,I (u8.length:Int)),(36,I y5)],[(27000101,.box 104 [S v4.2.2,.sl 27000102 0 u5.length,.sl 27000103 0 u6.length,.nptr u3 27000101 3,.sl 27000104 0 u7.length,B u4]),(27000102,.row 48 8 0 (F zm u5)),(27000103,.row 194 2 0 (F zt u6)),(27000104,.row 5 1 0 (F cU u7)),(27000105,.row 9 1 0 (F cS u8))],[]⟩) (Sum.elim (fun q7=>(.ret,⟨[(6,B true)],[(27000101,.box 104 [S v4.2.2,.sl 27000102 0 u5.length,.sl 27000103 0 u6.length,.nptr u3 27000101 3,.sl 27000104 0 u7.length,B u4]),(27000102,.row 48 8 0 (F zm u5)),(27000103,.row 194 2 0 (F zt u6)),(27000104,.row 5 1 0 (F cU u7)),(27000105,.row 9 1 0 (F cS u8))],[]⟩)) (fun q8=>(.exit 0,⟨[],[(27000101,.box 104 [S v4.2.2,.sl 27000102 0 u5.length,.sl 27000103 0 u6.length,.nptr u3 27000101 3,.sl 27000104 0 u7.length,B u4]),(27000102,.row 48 8 0 (F zm u5)),(27000103,.row 194 2 0 (F zt u6)),(27000104,.row 5 1 0 (F cU u7)),(27000105,.row 9 1 0 (F cS u8))],[]⟩))) [(27000101,27000101),(27000102,27000102),(27000103,27000103),(27000104,27000104),(27000105,27000105)] hB h (fun y5 t h=> ?_) (fun q h=> ?_)
 ·unfold zX at h;refine z.a8.g ?_;refine zn h (fun _ h=> ?_) (fun _ h=> ?_)
  ·refine z.c.W.g ?_;refine QT h (fun v6 ev6 h=> ?_);refine Q7 ev6 ?_;refine z.O.g ?_;refine zd h (fun _ h=> ?_) (fun _ h=> ?_)
   ·refine z.i7.b4.f.x.g ?_;refine zn h (fun _ h=> ?_) (fun _ h=> ?_)
    ·refine z.j8.g ?_;exact zr [(27000101,27000101),(27000102,27000102),(27000103,27000103),(27000104,27000104),(27000105,27000105)] hB h
    refine z.d8.g ?_;exact zu [(27000101,27000101),(27000102,27000102),(27000103,27000103),(27000104,27000104),(27000105,27000105)] hB h
   refine z.d8.i1.k.g ?_;exact zu [(27000101,27000101),(27000102,27000102),(27000103,27000103),(27000104,27000104),(27000105,27000105)] hB h
  refine z.l.g ?_;exact zr [(27000101,27000101),(27000102,27000102),(27000103,27000103),(27000104,27000104),(27000105,27000105)] hB h
 rcases q with q7|q8
 ·dsimp only [Sum.elim] at h ⊢
  refine z.B.g ?_;apply za [(27000101,27000101),(27000102,27000102),(27000103,27000103),(27000104,27000104),(27000105,27000105)] hB h
 dsimp only [Sum.elim] at h ⊢
 refine z.l7.g ?_;apply za [(27000101,27000101),(27000102,27000102),(27000103,27000103),(27000104,27000104),(27000105,27000105)] hB h
theorem parse_reader_encoding_s1_ok {u1:Str}{u2:Bool}{u3:Bool}{u4:(List zf)}{u5:(List zv)}{u6:Str}{r:Bool×Str}(h:Zi u1 u2 u3 u4 u5 u6=some r):XSpec Tryz.prog 103 [.ptr 31000101 0] [(31000101,.box 104 [S u1,.sl 31000102 0 u4.length,.sl 31000103 0 u5.length,.nptr u2 31000101 3,.sl 31000104 0 u6.length,B u3]),(31000102,.row 48 8 0 (F zm u4)),(31000103,.row 194 2 0 (F zt u5)),(31000104,.row 5 1 0 (F cU u6))] (B r.1) [(31000101,.box 104 [S r.2,.sl 31000102 0 u4.length,.sl 31000103 0 u5.length,.nptr u2 31000101 3,.sl 31000104 0 u6.length,B u3]),(31000102,.row 48 8 0 (F zm u4)),(31000103,.row 194 2 0 (F zt u5)),(31000104,.row 5 1 0 (F cU u6))] []:=by
 unfold Zi at h;refine zc Tryz.hU Tryz.func103 (fun _ _ _ hB=> ?_);refine z.f3.b2.a1.g ?_;refine qQ (fun q3=>(.normal,⟨[(0,.ptr 31000101 0),(3,S u1),(17,B q3.1)],[(31000101,.box 104 [S q3.2,.sl 31000102 0 u4.length,.sl 31000103 0 u5.length,.nptr u2 31000101 3,.sl 31000104 0 u6.length,B u3]),(31000102,.row 48 8 0 (F zm u4)),(31000103,.row 194 2 0 (F zt u5)),(31000104,.row 5 1 0 (F cU u6))],[]⟩)) h (fun t h=> ?_) (fun q3 h=> ?_)
 ·refine z.m.g ?_;refine zg [(26000101,31000101),(26000102,31000102),(26000103,31000103),(26000104,31000104)] [31000101,31000102,31000103,31000104] h (fun _=>zR) (fun v1 _ h=> ?_);refine z.f8.g ?_;refine zd h (fun _ h=> ?_) (fun _ h=> ?_)
  ·refine z.P.k.g ?_;exact zq [(31000101,31000101),(31000102,31000102),(31000103,31000103),(31000104,31000104)] hB h
  refine z.f.g ?_;refine zg [(28000101,31000101),(28000102,31000102),(28000103,31000103),(28000104,31000104)] [31000101,31000102,31000103,31000104] h (fun _=>zJ) (fun v2 _ h=> ?_);refine z.c8.Z.g ?_;exact zq [(31000101,31000101),(31000102,31000102),(31000103,31000103),(31000104,31000104)] hB h
 refine f_t ?_;refine zn h (fun _ h=> ?_) (fun _ h=> ?_)
 ·refine z.S.m0.i.g ?_;apply za [(31000101,31000101),(31000102,31000102),(31000103,31000103),(31000104,31000104)] hB h
 refine z.t.g ?_;refine zg [(29000101,31000101),(29000102,31000102),(29000103,31000103),(29000104,31000104)] [31000101,31000102,31000103,31000104] h (fun _=>QW) (fun v4 _ h=> ?_);refine z.O.b7.g ?_;refine zd h (fun _ h=> ?_) (fun _ h=> ?_)
 ·refine z.f.g ?_;refine zo h (fun _=>parse_fold_ok) (fun v5 _ h=> ?_);refine z.c3.b4.a5.g ?_;apply za [(31000101,31000101),(31000102,31000102),(31000103,31000103),(31000104,31000104)] hB h
 refine z.b9.k.g ?_;apply za [(31000101,31000101),(31000102,31000102),(31000103,31000103),(31000104,31000104)] hB h
theorem parse_reader_declaration_s1_ok {u1:Str}{u2:Bool}{u3:Bool}{u4:(List zf)}{u5:(List zv)}{u6:Str}{r:Bool×Str}(h:qK u1 u2 u3 u4 u5 u6=some r):XSpec Tryz.prog 60 [.ptr 25000101 0] [(25000101,.box 104 [S u1,.sl 25000102 0 u4.length,.sl 25000103 0 u5.length,.nptr u2 25000101 3,.sl 25000104 0 u6.length,B u3]),(25000102,.row 48 8 0 (F zm u4)),(25000103,.row 194 2 0 (F zt u5)),(25000104,.row 5 1 0 (F cU u6))] (B r.1) [(25000101,.box 104 [S r.2,.sl 25000102 0 u4.length,.sl 25000103 0 u5.length,.nptr u2 25000101 3,.sl 25000104 0 u6.length,B u3]),(25000102,.row 48 8 0 (F zm u4)),(25000103,.row 194 2 0 (F zt u5)),(25000104,.row 5 1 0 (F cU u6))] []:=by
 unfold qK at h;refine zc Tryz.hU Tryz.func60 (fun _ _ _ hB=> ?_);refine z.f3.c.g ?_;refine qQ (fun q4=>(.normal,⟨[(0,.ptr 25000101 0),(26,B q4)],[(25000101,.box 104 [S u1,.sl 25000102 0 u4.length,.sl 25000103 0 u5.length,.nptr u2 25000101 3,.sl 25000104 0 u6.length,B u3]),(25000102,.row 48 8 0 (F zm u4)),(25000103,.row 194 2 0 (F zt u5)),(25000104,.row 5 1 0 (F cU u6))],[]⟩)) h (fun t h=> ?_) (fun q4 h=> ?_)
 ·refine z.F.a3.b2.m.g ?_;refine zd h (fun _ h=> ?_) (fun _ h=> ?_)
  ·refine z.P.k.K.n.j.g ?_;exact zq [(25000101,25000101),(25000102,25000102),(25000103,25000103),(25000104,25000104)] hB h
  refine z.H.n8.f.g ?_;refine ZF h (fun v1 _ h=> ?_);refine z.p.j5.a5.g ?_;refine zd h (fun _ h=> ?_) (fun _ h=> ?_)
  ·refine z.P.k.j.g ?_;exact zq [(25000101,25000101),(25000102,25000102),(25000103,25000103),(25000104,25000104)] hB h
  refine z.H.n8.f.g ?_;refine QI h (fun v2 _ h=> ?_);refine l_on ?_;refine zo h (fun _=>zaH) (fun v3 _ h=> ?_);refine z.c8.Z.g ?_;exact zq [(25000101,25000101),(25000102,25000102),(25000103,25000103),(25000104,25000104)] hB h
 refine f_t ?_;refine zn h (fun _ h=> ?_) (fun _ h=> ?_)
 ·refine z.S.g ?_;apply za [(25000101,25000101),(25000102,25000102),(25000103,25000103),(25000104,25000104)] hB h
 refine z.b2.h5.g ?_;refine ZF h (fun v5 _ h=> ?_);refine z.w.b2.b.m0.g ?_;refine zg [(26000101,25000101),(26000102,25000102),(26000103,25000103),(26000104,25000104)] [25000101,25000102,25000103,25000104] h (fun _=>zR) (fun v6 _ h=> ?_);refine z.b2.V.e.g ?_;refine zo h (fun _=>strings_HasPrefix_ok) (fun v7 _ h=> ?_);refine z.d4.g ?_;refine zn h (fun _ h=> ?_) (fun _ h=> ?_)
 ·refine z.S.g ?_;apply za [(25000101,25000101),(25000102,25000102),(25000103,25000103),(25000104,25000104)] hB h
 refine z.V.m0.h5.g ?_;refine Z6 (e:=cS) [[49,46,48]] ?_;refine zg [(27000101,25000101),(27000102,25000102),(27000103,25000103),(27000104,25000104),(27000105,1052)] [25000101,25000102,25000103,25000104,1052] h (fun _=>za2) (fun v8 _ h=> ?_);refine z.f8.g ?_;refine zd h (fun _ h=> ?_) (fun _ h=> ?_)
 ·refine z.S.f9.K.k.g ?_;apply za [(25000101,25000101),(25000102,25000102),(25000103,25000103),(25000104,25000104)] hB h
 refine z.f.g ?_;refine zg [(31000101,25000101),(31000102,25000102),(31000103,25000103),(31000104,25000104)] [25000101,25000102,25000103,25000104] h (fun _=>parse_reader_encoding_s1_ok) (fun v9 _ h=> ?_);refine l_to [(25000101,25000101),(25000102,25000102),(25000103,25000103),(25000104,25000104)] ⟨[(0,.ptr 25000101 0),(55,B false),(57,B v9.1)],[(25000101,.box 104 [S v9.2,.sl 25000102 0 u4.length,.sl 25000103 0 u5.length,.nptr u2 25000101 3,.sl 25000104 0 u6.length,B u3]),(25000102,.row 48 8 0 (F zm u4)),(25000103,.row 194 2 0 (F zt u5)),(25000104,.row 5 1 0 (F cU u6))],[]⟩ hB ?_;refine z.p.Z.g ?_;refine zd h (fun _ h=> ?_) (fun _ h=> ?_)
 ·refine z.S.f9.j.g ?_;apply za [(25000101,25000101),(25000102,25000102),(25000103,25000103),(25000104,25000104)] hB h
 refine z.f.g ?_;refine Z6 (e:=cS) [[121,101,115],[110,111]] ?_;refine l_on ?_;refine zg [(27000101,25000101),(27000102,25000102),(27000103,25000103),(27000104,25000104),(27000105,1062)] [25000101,25000102,25000103,25000104,1062] h (fun _=>za2) (fun v10 _ h=> ?_);refine z.c5.Z.g ?_;refine zn h (fun _ h=> ?_) (fun _ h=> ?_)
 ·refine z.S.g ?_;apply za [(25000101,25000101),(25000102,25000102),(25000103,25000103),(25000104,25000104)] hB h
 refine z.t.g ?_;refine zg [(26000101,25000101),(26000102,25000102),(26000103,25000103),(26000104,25000104)] [25000101,25000102,25000103,25000104] h (fun _=>zR) (fun v11 _ h=> ?_);refine z.c1.g ?_;refine zg [(28000101,25000101),(28000102,25000102),(28000103,25000103),(28000104,25000104)] [25000101,25000102,25000103,25000104] h (fun _=>zJ) (fun v12 _ h=> ?_);refine z.h.g ?_;apply za [(25000101,25000101),(25000102,25000102),(25000103,25000103),(25000104,25000104)] hB h
theorem strings_Builder_Len_s1_ok {u1:Str}{u2:Bool}{u3:Bool}{u4:(List zf)}{u5:(List zv)}{u6:Str}{r:Int}(h:Qy u1 u2 u3 u4 u5 u6=some r):XSpec Tryz.prog 213 [.ptr 35000101 3] [(35000101,.box 104 [S u1,.sl 35000102 0 u4.length,.sl 35000103 0 u5.length,.nptr u2 35000101 3,.sl 35000104 0 u6.length,B u3]),(35000102,.row 48 8 0 (F zm u4)),(35000103,.row 194 2 0 (F zt u5)),(35000104,.row 5 1 0 (F cU u6))] (I r) [(35000101,.box 104 [S u1,.sl 35000102 0 u4.length,.sl 35000103 0 u5.length,.nptr u2 35000101 3,.sl 35000104 0 u6.length,B u3]),(35000102,.row 48 8 0 (F zm u4)),(35000103,.row 194 2 0 (F zt u5)),(35000104,.row 5 1 0 (F cU u6))] []:=by
 unfold Qy at h;refine zc Tryz.hU Tryz.func213 (fun _ _ _ hB=> ?_);refine z.h.I.b2.a1.g ?_;apply za [(35000101,35000101),(35000102,35000102),(35000103,35000103),(35000104,35000104)] hB h
theorem ZQ {u1:Str}{u2:Bool}{u3:Bool}{u4:(List zf)}{u5:(List zv)}{u6:Str}{r:Int}(h:qx u1 u2 u3 u4 u5 u6=some r):XSpec Tryz.prog 163 [.ptr 36000101 0] [(36000101,.box 104 [S u1,.sl 36000102 0 u4.length,.sl 36000103 0 u5.length,.nptr u2 36000101 3,.sl 36000104 0 u6.length,B u3]),(36000102,.row 48 8 0 (F zm u4)),(36000103,.row 194 2 0 (F zt u5)),(36000104,.row 5 1 0 (F cU u6))] (I r) [(36000101,.box 104 [S u1,.sl 36000102 0 u4.length,.sl 36000103 0 u5.length,.nptr u2 36000101 3,.sl 36000104 0 u6.length,B u3]),(36000102,.row 48 8 0 (F zm u4)),(36000103,.row 194 2 0 (F zt u5)),(36000104,.row 5 1 0 (F cU u6))] []:=by
 unfold qx at h;refine zc Tryz.hU Tryz.func163 (fun _ _ _ hB=> ?_);refine z.q.I.b2.d6.g ?_;refine zn h (fun _ h=> ?_) (fun _ h=> ?_)
 ·refine z.S.g ?_;apply za [(36000101,36000101),(36000102,36000102),(36000103,36000103),(36000104,36000104)] hB h
 refine z.e3.g ?_;refine qX [] (.q 0 (.q 1 (.q 2 (.q 3 (.q 4 (.q 5 (.q 6 (.q 7 (.q 8 (.q 9 (.q 10 (.q 11 (.q 12 (.q 13 .done)))))))))))))) hm ?_;refine z.d.n1.d.n2.d.i2.i2.g ?_;refine zU h (fun v1 ev1 h=> ?_);refine z.d.m2.g ?_;refine n_ldr0 ev1 ?_;refine z.h6.f2.k5.g ?_;apply za [(36000101,36000101),(36000102,36000102),(36000103,36000103),(36000104,36000104)] hB h
theorem Ql {u1:Str}{u2:Bool}{u3:Bool}{u4:(List zf)}{u5:(List zv)}{u6:Str}{r:Str}(h:ZR u1 u2 u3 u4 u5 u6=some r):XSpec Tryz.prog 79 [.ptr 37000101 3] [(37000101,.box 104 [S u1,.sl 37000102 0 u4.length,.sl 37000103 0 u5.length,.nptr u2 37000101 3,.sl 37000104 0 u6.length,B u3]),(37000102,.row 48 8 0 (F zm u4)),(37000103,.row 194 2 0 (F zt u5)),(37000104,.row 5 1 0 (F cU u6))] (S r) [(37000101,.box 104 [S u1,.sl 37000102 0 u4.length,.sl 37000103 0 u5.length,.nptr u2 37000101 3,.junk,B u3]),(37000102,.row 48 8 0 (F zm u4)),(37000103,.row 194 2 0 (F zt u5))] [37000104]:=by
 unfold ZR at h;refine zc Tryz.hU Tryz.func79 (fun _ _ _ hB=> ?_);refine z.k4.g ?_;refine qX [10] (.q 0 (.q 1 (.q 2 (.q 3 (.q 5 (.q 6 (.q 7 (.q 8 (.q 9 (.e 4 (.e 10 (.q 11 .done)))))))))))) hm ?_;refine z.v.r6.v.n2.d.i2.i2.g ?_;refine n_ustr h (fun v1 _ h=> ?_);refine z.h6.f2.k5.g ?_;apply za [(37000101,37000101),(37000102,37000102),(37000103,37000103)] hB h
theorem strings_Builder_Reset_s1_ok {u1:Str}{u2:Bool}{u3:Bool}{u4:(List zf)}{u5:(List zv)}{r:Unit}(h:Z0 u1 u2 u3 u4 u5=some r):XSpec Tryz.prog 214 [.ptr 38000101 3] [(38000101,.box 104 [S u1,.sl 38000102 0 u4.length,.sl 38000103 0 u5.length,.nptr u2 38000101 3,.junk,B u3]),(38000102,.row 48 8 0 (F zm u4)),(38000103,.row 194 2 0 (F zt u5))] (.tup []) [(38000101,.box 104 [S u1,.sl 38000102 0 u4.length,.sl 38000103 0 u5.length,.nptr true 38000101 3,.pl (.slice none 0 0),B u3]),(38000102,.row 48 8 0 (F zm u4)),(38000103,.row 194 2 0 (F zt u5))] []:=by
 unfold Z0 at h;refine zc Tryz.hU Tryz.func214 (fun _ _ _ hB=> ?_);refine z.d5.k9.c0.m.m0.b.g ?_;refine f_npcell (b:=38000101) (j:=3) 38000101 3 ?_;apply za [(38000101,38000101),(38000102,38000102),(38000103,38000103)] hB h
theorem Q9 {u1:Str}{u2:Bool}{u3:Bool}{u4:(List zf)}{u5:(List zv)}{u6:Str}{r:Bool×(List zf)×Str}(h:qF u1 u2 u3 u4 u5 u6=some r):XSpec Tryz.prog 162 [.ptr 34000101 0] [(34000101,.box 104 [S u1,.sl 34000102 0 u4.length,.sl 34000103 0 u5.length,.nptr u2 34000101 3,.sl 34000104 0 u6.length,B u3]),(34000102,.row 48 8 0 (F zm u4)),(34000103,.row 194 2 0 (F zt u5)),(34000104,.row 5 1 0 (F cU u6))] (.tup []) [(34000101,.box 104 [S u1,.sl 34000102 0 r.2.1.length,.sl 34000103 0 u5.length,.nptr r.1 34000101 3,.sl 34000151 0 r.2.2.length,B u3]),(34000102,.row 48 8 0 (F zm r.2.1)),(34000103,.row 194 2 0 (F zt u5)),(34000151,.row 5 1 0 (F cU r.2.2))] [34000102,34000104]:=by
 unfold qF at h;refine zc Tryz.hU Tryz.func162 (fun _ _ _ hB=> ?_);refine z.c0.b.g ?_;refine zg [(35000101,34000101),(35000102,34000102),(35000103,34000103),(35000104,34000104)] [34000101,34000102,34000103,34000104] h (fun _=>strings_Builder_Len_s1_ok) (fun v1 _ h=> ?_);refine z.q.g ?_;refine zn h (fun _ h=> ?_) (fun _ h=> ?_)
 ·refine zaE ?_;refine qQ (fun q5=>(.normal,⟨[(0,.ptr 34000101 0)],[(34000101,.box 104 [S u1,.sl 34000102 0 q5.length,.sl 34000103 0 u5.length,.nptr u2 34000101 3,.junk,B u3]),(34000102,.row 48 8 0 (F zm q5)),(34000103,.row 194 2 0 (F zt u5))],[34000104,34000102]⟩)) h (fun t h=> ?_) (fun q5 h=> ?_)
  ·refine qX [6,10,13,16] (.q 5 (.s 0 (.s 1 (.s 2 (.s 3 (.s 7 (.s 8 (.s 9 (.alt 4 (.e 6 (.e 10 (.q 11 (.e 12 (.e 13 (.q 14 (.q 15 (.e 16 .done)))))))) (.e 6 (.alt 4 (.e 10 (.q 11 (.e 12 (.e 13 (.q 14 (.q 15 (.e 16 .done))))))) (.e 10 (.q 4 (.q 11 (.e 12 (.e 13 (.q 14 (.q 15 (.e 16 .done))))))))))))))))))) hm ?_;refine z.q9.p2.s0.p2.j0.q9.p2.s0.p2.j0.j0.e9.g ?_;refine zQ ?_ ?_
   ·refine z.v.m8.o3.g ?_;refine zI [(36000101,34000101),(36000102,34000102),(36000103,34000103),(36000104,34000104)] [34000101,34000102,34000103,34000104] h (fun _=>ZQ) (fun v2 _ h=> ?_);refine ge ?_;refine zI [(37000101,34000101),(37000102,34000102),(37000103,34000103),(37000104,34000104)] [34000101,34000102,34000103,34000104] h (fun _=>Ql) (fun v3 _ h=> ?_);refine z.q1.d.g ?_;refine m_nilt 18 ?_;refine ge ?_;refine n_lit (e:=zm) [(zf.mk 2 v2 [] [] [] v3 [] [])] ?_;refine ge ?_;refine n_appo h (fun v4 _ h=> ?_);refine z.d9.o2.v.m2.l1.d.g ?_;exact zq [(34000101,34000101),(34000102,34000102),(34000103,34000103)] hB h
   refine ge ?_;refine zI [(36000101,34000101),(36000102,34000102),(36000103,34000103),(36000104,34000104)] [34000101,34000102,34000103,34000104] h (fun _=>ZQ) (fun v2 _ h=> ?_);refine zQ ?_ ?_
   ·refine z.v.m8.o3.g ?_;refine zI [(37000101,34000101),(37000102,34000102),(37000103,34000103),(37000104,34000104)] [34000101,34000102,34000103,34000104] h (fun _=>Ql) (fun v3 _ h=> ?_);refine z.q1.d.g ?_;refine m_nilt 18 ?_;refine ge ?_;refine n_lit (e:=zm) [(zf.mk 2 v2 [] [] [] v3 [] [])] ?_;refine ge ?_;refine n_appo h (fun v4 _ h=> ?_);refine z.d9.o2.v.m2.l1.d.g ?_;exact zq [(34000101,34000101),(34000102,34000102),(34000103,34000103)] hB h
   refine ge ?_;refine zI [(37000101,34000101),(37000102,34000102),(37000103,34000103),(37000104,34000104)] [34000101,34000102,34000103,34000104] h (fun _=>Ql) (fun v3 _ h=> ?_);refine z.q1.d.i5.g ?_;refine m_nilt 18 ?_;refine ge ?_;refine n_lit (e:=zm) [(zf.mk 2 v2 [] [] [] v3 [] [])] ?_;refine ge ?_;refine n_appo h (fun v4 _ h=> ?_);refine z.d9.o2.v.m2.l1.d.g ?_;exact zq [(34000101,34000101),(34000102,34000102),(34000103,34000103)] hB h
  refine z.c0.m.e0.g ?_;refine zg [(38000101,34000101),(38000102,34000102),(38000103,34000103)] [34000101,34000102,34000103] h (fun _=>strings_Builder_Reset_s1_ok) (fun v6 _ h=> ?_);refine k_nil ?_;refine f_nilcell (te:=5) (b1:=34000101) (j:=4) 340004014 1 ?_;apply za [(34000101,34000101),(34000102,34000102),(34000103,34000103),(340004014,34000151)] hB h
 refine k_skip ?_;apply za [(34000101,34000101),(34000102,34000102),(34000103,34000103),(34000104,34000151)] hB h
theorem JO {u1:Int}{u2:Int}{u3:Str}{u4:Str}{u5:Str}{u6:Str}{u7:Str}{u8:Bool}{u9:Bool}{u10:(List zf)}{u11:(List zv)}{u12:Str}{r:Bool×(List zf)×Str}(h:Zb u1 u2 u3 u4 u5 u6 u7 u8 u9 u10 u11 u12=some r):XSpec Tryz.prog 106 [.ptr 33000101 0,.agg [I u1,I u2,S u3,S u4,S u5,S u6,.pl (.slice none 0 0),.pl (.slice none 0 0)]] [(33000101,.box 104 [S u7,.sl 33000102 0 u10.length,.sl 33000103 0 u11.length,.nptr u8 33000101 3,.sl 33000104 0 u12.length,B u9]),(33000102,.row 48 8 0 (F zm u10)),(33000103,.row 194 2 0 (F zt u11)),(33000104,.row 5 1 0 (F cU u12))] (.tup []) [(33000101,.box 104 [S u7,.sl 33000102 0 r.2.1.length,.sl 33000103 0 u11.length,.nptr r.1 33000101 3,.sl 33000151 0 r.2.2.length,B u9]),(33000102,.row 48 8 0 (F zm r.2.1)),(33000103,.row 194 2 0 (F zt u11)),(33000151,.row 5 1 0 (F cU r.2.2))] [33000102,33000104]:=by
 unfold Zb at h;refine zc Tryz.hU Tryz.func106 (fun _ _ _ hB=> ?_);refine z.c1.l2.g ?_;refine zg [(34000101,33000101),(34000102,33000102),(34000103,33000103),(34000104,33000104),(34000151,100551)] [33000101,33000102,33000103,33000104] h (fun _=>Q9) (fun v1 _ h=> ?_);refine z.c1.g ?_;refine zg [(36000101,33000101),(36000102,33000102),(36000103,33000103),(36000104,100551)] [33000101,33000102,33000103,100551] h (fun _=>ZQ) (fun v2 _ h=> ?_);refine z.e7.p3.g ?_;refine qX [7,10] (.q 1 (.q 2 (.q 3 (.q 4 (.q 5 (.s 0 (.e 6 (.e 7 (.q 8 (.q 9 (.e 10 .done))))))))))) hm ?_;refine z.j0.n5.d.i2.g ?_;refine m_nilt 14 ?_;refine ge ?_;refine n_lit (e:=zm) [(zf.mk u1 v2 u3 u4 u5 u6 [] [])] ?_;refine ge ?_;refine n_appo h (fun v3 _ h=> ?_);refine z.d9.o2.v.m2.l1.d.g ?_;apply za [(33000101,33000101),(33000102,33000102),(33000103,33000103),(100551,33000151)] hB h
theorem strings_Builder_copyCheck_s3_ok {u1:Str}{u2:Bool}{u3:Bool}{u4:(List zf)}{u5:(List zv)}{u6:Str}{r:Unit}(h:Zq u1 u2 u3 u4 u5 u6=some r):XSpec Tryz.prog 139 [.ptr 40000101 3] [(40000101,.box 104 [S u1,.sl 40000102 0 u4.length,.sl 40000103 0 u5.length,.nptr u2 40000101 3,.sl 40000104 0 u6.length,B u3]),(40000102,.row 48 8 0 (F zm u4)),(40000103,.row 194 2 0 (F zt u5)),(40000104,.row 5 1 0 (F cU u6))] (.tup []) [(40000101,.box 104 [S u1,.sl 40000102 0 u4.length,.sl 40000103 0 u5.length,.nptr false 40000101 3,.sl 40000104 0 u6.length,B u3]),(40000102,.row 48 8 0 (F zm u4)),(40000103,.row 194 2 0 (F zt u5)),(40000104,.row 5 1 0 (F cU u6))] []:=by
 unfold Zq at h;refine zc Tryz.hU Tryz.func139 (fun _ _ _ hB=> ?_);refine z.b2.b.g ?_
 cases u2 with
 |true=>
  replace h:=bif_t h
  refine z.p5.y.e8.e.o8.g ?_;refine l_nat (noEscape_spec Tryz.func193 (.ptr 40000101 3:AV)) ?_;refine l_fromunsafe (P:=Tryz.prog) ?_;refine z.d5.k9.c0.g ?_;apply za [(40000101,40000101),(40000102,40000102),(40000103,40000103),(40000104,40000104)] hB h
 |false=>
  replace h:=bif_f h
  refine z.Q.i4.e.q4.j6.b.i4.e.o8.g ?_;apply za [(40000101,40000101),(40000102,40000102),(40000103,40000103),(40000104,40000104)] hB h
theorem ZD {u1:Str}{u2:Str}{u3:Bool}{u4:Bool}{u5:(List zf)}{u6:(List zv)}{u7:Str}{r:Int×Str}(h:zM u1 u2 u3 u4 u5 u6 u7=some r):XSpec Tryz.prog 78 [.ptr 39000101 3,S u1] [(39000101,.box 104 [S u2,.sl 39000102 0 u5.length,.sl 39000103 0 u6.length,.nptr u3 39000101 3,.sl 39000104 0 u7.length,B u4]),(39000102,.row 48 8 0 (F zm u5)),(39000103,.row 194 2 0 (F zt u6)),(39000104,.row 5 1 0 (F cU u7))] (.tup [I r.1,.pl .nilIface]) [(39000101,.box 104 [S u2,.sl 39000102 0 u5.length,.sl 39000103 0 u6.length,.nptr false 39000101 3,.sl 39000104 0 r.2.length,B u4]),(39000102,.row 48 8 0 (F zm u5)),(39000103,.row 194 2 0 (F zt u6)),(39000104,.row 5 1 0 (F cU r.2))] [39000104]:=by
 unfold zM at h;refine zc Tryz.hU Tryz.func78 (fun _ _ _ hB=> ?_);refine z.w.a7.g ?_;refine zg [(40000101,39000101),(40000102,39000102),(40000103,39000103),(40000104,39000104)] [39000101,39000102,39000103,39000104] h (fun _=>strings_Builder_copyCheck_s3_ok) (fun v1 _ h=> ?_);refine z.j6.i.e.g ?_;refine l_apps h (fun v2 _ h=> ?_);refine z.N.a3.b.m0.g ?_;apply za [(39000101,39000101),(39000102,39000102),(39000103,39000103),(39000104,39000104)] hB h
theorem zh {u1:Str}{u2:Bool}{u3:Bool}{u4:(List zf)}{u5:(List zv)}{u6:Str}{r:Str×Str}(h:qu u1 u2 u3 u4 u5 u6=some r):XSpec Tryz.prog 164 [.ptr 42000101 0] [(42000101,.box 104 [S u1,.sl 42000102 0 u4.length,.sl 42000103 0 u5.length,.nptr u2 42000101 3,.sl 42000104 0 u6.length,B u3]),(42000102,.row 48 8 0 (F zm u4)),(42000103,.row 194 2 0 (F zt u5)),(42000104,.row 5 1 0 (F cU u6))] (S r.1) [(42000101,.box 104 [S r.2,.sl 42000102 0 u4.length,.sl 42000103 0 u5.length,.nptr u2 42000101 3,.sl 42000104 0 u6.length,B u3]),(42000102,.row 48 8 0 (F zm u4)),(42000103,.row 194 2 0 (F zt u5)),(42000104,.row 5 1 0 (F cU u6))] []:=by
 unfold qu at h;refine zc Tryz.hU Tryz.func164 (fun _ _ _ hB=> ?_);refine z.m4.t3.b2.d6.o.c.g ?_;refine zF (fun y1=>⟨[(0,.ptr 42000101 0),(3,I y1.1),(11,.it 1011)],[(42000101,.box 104 [S u1,.sl 42000102 0 u4.length,.sl 42000103 0 u5.length,.nptr u2 42000101 3,.sl 42000104 0 u6.length,B u3]),(42000102,.row 48 8 0 (F zm u4)),(42000103,.row 194 2 0 (F zt u5)),(42000104,.row 5 1 0 (F cU u6)),(1011,.siter ⟨u1.toArray⟩ y1.2)],[]⟩) (fun q3=>(.exit 0,⟨[(0,.ptr 42000101 0),(3,I q3)],[(42000101,.box 104 [S u1,.sl 42000102 0 u4.length,.sl 42000103 0 u5.length,.nptr u2 42000101 3,.sl 42000104 0 u6.length,B u3]),(42000102,.row 48 8 0 (F zm u4)),(42000103,.row 194 2 0 (F zt u5)),(42000104,.row 5 1 0 (F cU u6))],[]⟩)) [(42000101,42000101),(42000102,42000102),(42000103,42000103),(42000104,42000104),(1011,1011)] hB h (fun y1 t h=> ?_) (fun q3 h=> ?_)
 ·unfold zL at h;refine z.c.g ?_;refine l_next h (fun _ h=> ?_) (fun _ h=> ?_)
  ·refine z.F.J.D.o0.c.l6.e8.T.e.l0.g ?_;refine zd h (fun _ h=> ?_) (fun _ h=> ?_)
   ·refine z.f.g ?_;refine zo h (fun _=>name_Stands_ok) (fun v2 _ h=> ?_);refine z.i7.Z.g ?_;refine zn h (fun _ h=> ?_) (fun _ h=> ?_)
    ·refine z.r2.l.g ?_;exact zr [(42000101,42000101),(42000102,42000102),(42000103,42000103),(42000104,42000104)] hB h
    refine z.h2.l9.a3.s1.y.M.g ?_;exact zu [(42000101,42000101),(42000102,42000102),(42000103,42000103),(42000104,42000104),(1011,1011)] hB h
   refine z.h2.l9.a3.s1.y.M.i1.k.g ?_;exact zu [(42000101,42000101),(42000102,42000102),(42000103,42000103),(42000104,42000104),(1011,1011)] hB h
  refine z.l.i4.T.e.l0.g ?_;exact zr [(42000101,42000101),(42000102,42000102),(42000103,42000103),(42000104,42000104)] hB h
 refine z.j6.k7.g ?_;refine ZF h (fun v4 _ h=> ?_);refine z.j6.O.g ?_;refine ZF h (fun v5 _ h=> ?_);refine z.h.b.m0.g ?_;apply za [(42000101,42000101),(42000102,42000102),(42000103,42000103),(42000104,42000104)] hB h
theorem parse_reader_instruction_s1_ok {u1:Str}{u2:Bool}{u3:Bool}{u4:(List zf)}{u5:(List zv)}{u6:Str}{r:Bool×Str×Bool×(List zf)×Str}(h:qM u1 u2 u3 u4 u5 u6=some r):XSpec Tryz.prog 107 [.ptr 41000101 0] [(41000101,.box 104 [S u1,.sl 41000102 0 u4.length,.sl 41000103 0 u5.length,.nptr u2 41000101 3,.sl 41000104 0 u6.length,B u3]),(41000102,.row 48 8 0 (F zm u4)),(41000103,.row 194 2 0 (F zt u5)),(41000104,.row 5 1 0 (F cU u6))] (B r.1) [(41000101,.box 104 [S r.2.1,.sl 41000102 0 r.2.2.2.1.length,.sl 41000103 0 u5.length,.nptr r.2.2.1 41000101 3,.sl 41000151 0 r.2.2.2.2.length,B u3]),(41000102,.row 48 8 0 (F zm r.2.2.2.1)),(41000103,.row 194 2 0 (F zt u5)),(41000151,.row 5 1 0 (F cU r.2.2.2.2))] [41000102,41000104]:=by
 unfold qM at h;refine zc Tryz.hU Tryz.func107 (fun _ _ _ hB=> ?_);refine z.a1.g ?_;refine zg [(42000101,41000101),(42000102,41000102),(42000103,41000103),(42000104,41000104)] [41000101,41000102,41000103,41000104] h (fun _=>zh) (fun v1 _ h=> ?_);refine z.w.g ?_;refine zg [(26000101,41000101),(26000102,41000102),(26000103,41000103),(26000104,41000104)] [41000101,41000102,41000103,41000104] h (fun _=>zR) (fun v2 _ h=> ?_);refine z.w.g ?_;refine zg [(30000101,41000101),(30000102,41000102),(30000103,41000103),(30000104,41000104)] [41000101,41000102,41000103,41000104] h (fun _=>Z2) (fun v3 _ h=> ?_);refine z.f8.J.b7.g ?_;refine zd h (fun _ h=> ?_) (fun _ h=> ?_)
 ·refine z.S.f9.n.j.g ?_;apply za [(41000101,41000101),(41000102,41000102),(41000103,41000103),(41000104,41000151)] hB h
 refine z.x.i8.f.g ?_;refine zd h (fun _ h=> ?_) (fun _ h=> ?_)
 ·refine z.c5.j3.j5.f.g ?_;refine zn h (fun _ h=> ?_) (fun _ h=> ?_)
  ·refine z.S.g ?_;apply za [(41000101,41000101),(41000102,41000102),(41000103,41000103),(41000104,41000151)] hB h
  refine z.f1.a.h5.g ?_;refine zg [(33000101,41000101),(33000102,41000102),(33000103,41000103),(33000104,41000104),(33000151,103051)] [41000101,41000102,41000103,41000104] h (fun _=>JO) (fun v4 _ h=> ?_);refine z.e1.e.g ?_;apply za [(41000101,41000101),(41000102,41000102),(41000103,41000103),(103051,41000151)] hB h
 refine z.f1.a.h5.i1.j4.n.g ?_;refine zg [(33000101,41000101),(33000102,41000102),(33000103,41000103),(33000104,41000104),(33000151,103051)] [41000101,41000102,41000103,41000104] h (fun _=>JO) (fun v5 _ h=> ?_);refine z.e1.e.g ?_;apply za [(41000101,41000101),(41000102,41000102),(41000103,41000103),(103051,41000151)] hB h
end Go.Proofs.YtojbjdcflgeibaaGreatDoor
