/- WALKS, printed by aw.py: that the program's functions compute the plain ones. Conditions: none. -/
import Derived.Test.YtojbjdcflgeibaaGreatDoorQWalk2
set_option linter.unusedVariables false
set_option linter.unusedSimpArgs false
set_option maxRecDepth 20000
set_option maxHeartbeats 4000000
namespace Go.Proofs.YtojbjdcflgeibaaGreatDoor
open Go Go.Abs W G
theorem doc_formed_ok {l:(List zd)}{n:Int}{last:Int}{r:Bool}(h:JG l n last=some r):XSpec Tryz.prog 173 [.vs l.length (F zi l),I n,I last] [] (B r) [] []:=by
 unfold JG at h;refine zf Tryz.hU Tryz.func173 (fun _ _ _ hB=> ?_);refine z.A.b.g ?_;refine Z5 h (fun v1 _ h=> ?_);refine z.i.a8.b.k8.e6.a7.c6.d0.b3.g ?_;refine zo h (fun _ h=> ?_) (fun _ h=> ?_)
 ·refine z.a.c2.e6.g ?_;refine zb h (fun _ h=> ?_) (fun _ h=> ?_)
  ·refine z.u.g ?_;refine zl h (fun _=>doc_declared_ok) (fun v2 _ h=> ?_);refine z.a3.g ?_;refine zb h (fun _ h=> ?_) (fun _ h=> ?_)
   ·refine z.h7.g ?_;refine zl h (fun _=>doc_named_ok) (fun v3 _ h=> ?_);refine l_to [] ⟨[(25,B true),(28,B v3)],[],[]⟩ hB ?_;refine z.o.X.g ?_;apply za [] hB h
   refine z.k2.l.g ?_;apply za [] hB h
  refine z.k2.l.n.l.g ?_;apply za [] hB h
 refine z.i.a8.b.g ?_;refine zo h (fun _ h=> ?_) (fun _ h=> ?_)
 ·refine z.b3.b.g ?_;refine zl h (fun _=>doc_bare_ok) (fun v4 _ h=> ?_);refine l_move ?_;refine zb h (fun _ h=> ?_) (fun _ h=> ?_)
  ·refine z.a3.h0.g ?_;refine zb h (fun _ h=> ?_) (fun _ h=> ?_)
   ·refine z.a3.f5.u.g ?_;refine zb h (fun _ h=> ?_) (fun _ h=> ?_)
    ·refine z.u.g ?_;refine zl h (fun _=>QB) (fun v5 _ h=> ?_);refine l_to [] ⟨[(0,.vs l.length (F zi l)),(2,I last),(44,B true),(47,B v5)],[],[]⟩ hB ?_;refine z.a3.g ?_;refine zb h (fun _ h=> ?_) (fun _ h=> ?_)
     ·refine z.c4.G.g ?_;refine zb h (fun _ h=> ?_) (fun _ h=> ?_)
      ·refine z.o.X.i2.i1.g ?_;apply za [] hB h
      refine z.h7.g ?_;refine Z5 h (fun v6 _ h=> ?_);refine z.o.X.i3.a8.u.g ?_;apply za [] hB h
     refine z.k2.i1.j.g ?_;apply za [] hB h
    refine z.k2.i1.h1.l.g ?_;apply za [] hB h
   refine z.k2.i1.h1.l.n.l.g ?_;apply za [] hB h
  refine z.k2.i1.h1.l.n.l.n.l.g ?_;apply za [] hB h
 refine z.i.a8.b.g ?_;refine zo h (fun _ h=> ?_) (fun _ h=> ?_)
 ·refine z.b3.b.g ?_;refine zl h (fun _=>doc_bare_ok) (fun v7 _ h=> ?_);refine l_move ?_;refine zb h (fun _ h=> ?_) (fun _ h=> ?_)
  ·refine z.a3.h0.g ?_;refine zb h (fun _ h=> ?_) (fun _ h=> ?_)
   ·refine z.u.g ?_;refine zl h (fun _=>QB) (fun v8 _ h=> ?_);refine l_to [(1007,1007)] ⟨[(7,.ptr 1007 0),(70,B true),(73,B v8)],[(1007,.box 48 [I v1.Kind,I v1.Parent,S v1.Prefix,S v1.Local,S v1.URI,S v1.Text,.vs v1.Decls.length (F zB v1.Decls),.vs v1.Attrs.length (F zI v1.Attrs)])],[]⟩ hB ?_;refine z.a3.g ?_;refine zb h (fun _ h=> ?_) (fun _ h=> ?_)
    ·refine z.u.g ?_;refine zl h (fun _=>Zg) (fun v9 _ h=> ?_);refine z.a3.R.g ?_;refine zb h (fun _ h=> ?_) (fun _ h=> ?_)
     ·refine z.u.g ?_;refine zl h (fun _=>strings_HasSuffix_ok) (fun v10 _ h=> ?_);refine l_to [] ⟨[(81,B true),(84,B v10)],[],[]⟩ hB ?_;refine z.o.X.R.g ?_;apply za [] hB h
     refine z.k2.j.g ?_;apply za [] hB h
    refine z.k2.h1.j.g ?_;apply za [] hB h
   refine z.k2.h1.h1.l.g ?_;apply za [] hB h
  refine z.k2.h1.h1.l.n.l.g ?_;apply za [] hB h
 refine z.i.a8.b.g ?_;refine zo h (fun _ h=> ?_) (fun _ h=> ?_)
 ·refine k_seq ?_;refine qW (fun q13=>(.normal,⟨[(7,.ptr 1007 0),(8,B q13)],[(1007,.box 48 [I v1.Kind,I v1.Parent,S v1.Prefix,S v1.Local,S v1.URI,S v1.Text,.vs v1.Decls.length (F zB v1.Decls),.vs v1.Attrs.length (F zI v1.Attrs)])],[]⟩)) h (fun t h=> ?_) (fun q13 h=> ?_)
  ·refine z.a.f5.T.l2.g ?_;refine zb h (fun _ h=> ?_) (fun _ h=> ?_)
   ·refine z.u.g ?_;refine ZZ h (fun v11 _ h=> ?_);refine l_on ?_;refine zl h (fun _=>Jx) (fun v12 _ h=> ?_);refine z.q.f2.g ?_;exact zm [(1007,1007)] hB h
   refine z.q.d8.j.g ?_;exact zm [(1007,1007)] hB h
  refine z.b3.b.P.g ?_;refine zl h (fun _=>doc_bare_ok) (fun v14 _ h=> ?_);refine l_move ?_;refine zb h (fun _ h=> ?_) (fun _ h=> ?_)
  ·refine z.u.g ?_;refine zl h (fun _=>ZY) (fun v15 _ h=> ?_);refine l_to [(1007,1007)] ⟨[(7,.ptr 1007 0),(8,B q13),(100,B true),(103,B v15)],[(1007,.box 48 [I v1.Kind,I v1.Parent,S v1.Prefix,S v1.Local,S v1.URI,S v1.Text,.vs v1.Decls.length (F zB v1.Decls),.vs v1.Attrs.length (F zI v1.Attrs)])],[]⟩ hB ?_;refine z.a3.g ?_;refine zb h (fun _ h=> ?_) (fun _ h=> ?_)
   ·refine z.u.g ?_;refine zl h (fun _=>doc_target_ok) (fun v16 _ h=> ?_);refine z.a3.R.g ?_;refine zb h (fun _ h=> ?_) (fun _ h=> ?_)
    ·refine z.u.g ?_;refine zl h (fun _=>QB) (fun v17 _ h=> ?_);refine l_to [(1007,1007)] ⟨[(7,.ptr 1007 0),(8,B q13),(111,B true),(114,B v17)],[(1007,.box 48 [I v1.Kind,I v1.Parent,S v1.Prefix,S v1.Local,S v1.URI,S v1.Text,.vs v1.Decls.length (F zB v1.Decls),.vs v1.Attrs.length (F zI v1.Attrs)])],[]⟩ hB ?_;refine z.a3.g ?_;refine zb h (fun _ h=> ?_) (fun _ h=> ?_)
     ·refine z.u.g ?_;refine zl h (fun _=>Zg) (fun v18 _ h=> ?_);refine z.a3.R.g ?_;refine zb h (fun _ h=> ?_) (fun _ h=> ?_)
      ·refine z.o.X.i5.h.g ?_;apply za [] hB h
      refine z.k2.k.g ?_;apply za [] hB h
     refine z.k2.k.n.j.g ?_;apply za [] hB h
    refine z.k2.k.n.h1.l.g ?_;apply za [] hB h
   refine z.k2.k.n.h1.l.n.j.g ?_;apply za [] hB h
  refine z.k2.k.n.h1.l.n.h1.l.g ?_;apply za [] hB h
 refine z.U.k0.g ?_;apply za [] hB h
theorem doc_under_ok {x:zd}{r:Bool}(h:doc_under x=some r):XSpec Tryz.prog 174 [.agg (zi x)] [] (B r) [] []:=by
 unfold doc_under at h;refine zf Tryz.hU Tryz.func174 (fun _ _ _ hB=> ?_);refine z.B.e6.i.i6.b.g ?_;refine zb h (fun _ h=> ?_) (fun _ h=> ?_)
 ·refine z.X.l.g ?_;apply za [] hB h
 refine z.c1.a8.u.g ?_;apply za [] hB h
theorem doc_check_ok {l:(List zd)}{r:Int×Bool}(h:Jo l=some r):XSpec Tryz.prog 111 [.vs l.length (F zi l)] [] (.tup [I r.1,B r.2]) [] []:=by
 unfold Jo at h;refine zf Tryz.hU Tryz.func111 (fun _ _ _ hB=> ?_);refine z.e2.b1.g ?_;refine qW (fun q7=>(.normal,⟨[(0,.vs l.length (F zi l)),(45,B q7)],[],[]⟩)) h (fun t h=> ?_) (fun q7 h=> ?_)
 ·refine z.B.F.f.g ?_;refine zb h (fun _ h=> ?_) (fun _ h=> ?_)
  ·refine z.L.f3.h2.h2.h2.h2.j.g ?_;exact zm [] hB h
  refine z.h.g ?_;refine Z5 h (fun v1 _ h=> ?_);refine z.n.a8.u.g ?_;refine zb h (fun _ h=> ?_) (fun _ h=> ?_)
  ·refine z.L.f3.h2.h2.h2.j.g ?_;exact zm [] hB h
  refine z.h.g ?_;refine Z5 h (fun v2 _ h=> ?_);refine z.n.a8.u.g ?_;refine zb h (fun _ h=> ?_) (fun _ h=> ?_)
  ·refine z.L.f3.h2.h2.j.g ?_;exact zm [] hB h
  refine z.h.g ?_;refine Z5 h (fun v3 _ h=> ?_);refine z.b0.b3.b0.g ?_;refine zl h (fun _=>doc_bare_ok) (fun v4 _ h=> ?_);refine z.n.R.g ?_;refine zb h (fun _ h=> ?_) (fun _ h=> ?_)
  ·refine z.L.f3.h2.j.g ?_;exact zm [] hB h
  refine z.h.g ?_;refine Z5 h (fun v5 _ h=> ?_);refine z.n.f5.u.g ?_;refine zb h (fun _ h=> ?_) (fun _ h=> ?_)
  ·refine z.L.f3.j.g ?_;exact zm [] hB h
  refine z.h.g ?_;refine Z5 h (fun v6 _ h=> ?_);refine z.c8.f5.u.g ?_;exact zm [] hB h
 refine f_t ?_;refine zo h (fun _ h=> ?_) (fun _ h=> ?_)
 ·refine z.M.g ?_;apply za [] hB h
 refine z.F.v.g ?_;refine l_make (e:=cI) (z:=0) h (fun v8 ev8 h=> ?_);refine z.d6.O.g ?_;refine zS (fun y9=>⟨[(0,.vs l.length (F zi l)),(4,.sl 1048 0 y9.2.length),(50,I (v8.length:Int)),(51,I y9.1)],[(1048,.row 3 1 0 (F cI y9.2))],[]⟩) (fun q12=>(.exit 0,⟨[(0,.vs l.length (F zi l)),(4,.sl 1048 0 q12.length)],[(1048,.row 3 1 0 (F cI q12))],[]⟩)) [(1048,1048)] hB h (fun y9 t h=> ?_) (fun q12 h=> ?_)
 ·unfold Z9 at h;refine z.c0.g ?_;refine zo h (fun _ h=> ?_) (fun _ h=> ?_)
  ·refine z.N.i.c.I.g ?_;refine QD h (fun v10 ev10 h=> ?_);refine l_put0 ev10 h (fun v11 ev11 h=> ?_);refine z.d7.d5.g ?_;refine JD 4 v11.length ?_;exact zt [(1048,1048)] hB h
  refine z.s.g ?_;exact zq [(1048,1048)] hB h
 refine z.Q.i.b.a9.b.E.g ?_;refine zS (fun y13=>⟨[(0,.vs l.length (F zi l)),(4,.sl 1048 0 y13.2.2.length),(6,I y13.1),(7,I y13.2.1)],[(1048,.row 3 1 0 (F cI y13.2.2))],[]⟩) (Sum.elim (fun q32=>(.ret,⟨[(2,I 0),(3,B false)],[],[]⟩)) (fun q33=>(.exit 2,⟨[(6,I q33)],[],[]⟩))) [(1048,1048)] hB h (fun y13 t h=> ?_) (fun q h=> ?_)
 ·unfold zy at h;refine z.r.F.j7.g ?_;refine zo h (fun _ h=> ?_) (fun _ h=> ?_)
  ·refine z.a7.a7.I.g ?_;refine qW (fun q20=>(.normal,⟨[(0,.vs l.length (F zi l)),(4,.sl 1048 0 y13.2.2.length),(6,I y13.1),(7,I y13.2.1),(89,B q20)],[(1048,.row 3 1 0 (F cI y13.2.2))],[]⟩)) h (fun t h=> ?_) (fun q20 h=> ?_)
   ·refine z.N.g ?_;refine zl h (fun _=>doc_stands_ok) (fun v14 _ h=> ?_);refine z.h8.g ?_;refine zb h (fun _ h=> ?_) (fun _ h=> ?_)
    ·refine z.L.k.d3.j.j.g ?_;exact zm [(1048,1048)] hB h
    refine z.h7.c4.c4.c4.g ?_;refine Z5 h (fun v15 _ h=> ?_);refine z.u.g ?_;refine QD h (fun v16 ev16 h=> ?_);refine l_on ?_;refine QL ev16 ?_;refine l_on ?_;refine zl h (fun _=>doc_formed_ok) (fun v17 _ h=> ?_);refine z.n.R.g ?_;refine zb h (fun _ h=> ?_) (fun _ h=> ?_)
    ·refine z.L.i1.g ?_;exact zm [(1048,1048)] hB h
    refine z.h7.g ?_;refine Z5 h (fun v18 _ h=> ?_);refine z.b0.b3.b0.g ?_;refine zl h (fun _=>doc_under_ok) (fun v19 _ h=> ?_);refine z.c8.R.g ?_;exact zm [(1048,1048)] hB h
   refine f_t ?_;refine zo h (fun _ h=> ?_) (fun _ h=> ?_)
   ·refine z.o.M.g ?_;exact zq [] hB h
   refine z.p.h4.g ?_;refine Z5 h (fun v21 _ h=> ?_);refine z.B.T.g ?_;refine zb h (fun _ h=> ?_) (fun _ h=> ?_)
   ·refine z.h7.g ?_;refine Z5 h (fun v22 _ h=> ?_);refine z.l8.a8.u.g ?_;refine zo h (fun _ h=> ?_) (fun _ h=> ?_)
    ·refine z.r.a1.g ?_;refine zo h (fun _ h=> ?_) (fun _ h=> ?_)
     ·refine z.o.i9.M.g ?_;exact zq [] hB h
     refine z.a.N.i.f.D.g ?_;refine Z5 h (fun v23 _ h=> ?_);refine z.a.T.g ?_;refine QD h (fun v24 ev24 h=> ?_);refine l_put0 ev24 h (fun v25 ev25 h=> ?_);refine z.i8.f.f8.d5.g ?_;refine JD 4 v25.length ?_;exact zt [(1048,1048)] hB h
    refine z.a.N.D.g ?_;refine Z5 h (fun v26 _ h=> ?_);refine z.a.T.g ?_;refine QD h (fun v27 ev27 h=> ?_);refine l_put0 ev27 h (fun v28 ev28 h=> ?_);refine z.i8.f.f8.d5.g ?_;refine JD 4 v28.length ?_;exact zt [(1048,1048)] hB h
   refine z.a.N.D.b7.V.i1.g ?_;refine Z5 h (fun v29 _ h=> ?_);refine z.a.T.g ?_;refine QD h (fun v30 ev30 h=> ?_);refine l_put0 ev30 h (fun v31 ev31 h=> ?_);refine z.i8.f.f8.d5.g ?_;refine JD 4 v31.length ?_;exact zt [(1048,1048)] hB h
  refine z.s.g ?_;exact zq [] hB h
 rcases q with q32|q33
 ·dsimp only [Sum.elim] at h ⊢
  refine z.o.g ?_;apply za [] hB h
 dsimp only [Sum.elim] at h ⊢
 refine z.H.a8.p.E.g ?_;apply za [] hB h
theorem doc_within_ok {l:(List zd)}{r:Bool}(h:JF l=some r):XSpec Tryz.prog 112 [.vs l.length (F zi l)] [] (B r) [] []:=by
 unfold JF at h;refine zf Tryz.hU Tryz.func112 (fun _ _ _ hB=> ?_);refine z.r.F.e5.g ?_;refine zo h (fun _ h=> ?_) (fun _ h=> ?_)
 ·refine z.Z.g ?_;apply za [] hB h
 refine z.F.v.g ?_;refine l_make (e:=cI) (z:=0) h (fun v1 ev1 h=> ?_);refine z.d6.O.g ?_;refine zS (fun y2=>⟨[(3,.sl 1011 0 y2.2.length),(12,.vs l.length (F zi l)),(13,I (l.length:Int)),(14,I y2.1)],[(1011,.row 3 1 0 (F cI y2.2))],[]⟩) (Sum.elim (fun q9=>(.ret,⟨[(2,B false)],[],[]⟩)) (fun q10=>(.exit 0,⟨[],[],[]⟩))) [(1011,1011)] hB h (fun y2 t h=> ?_) (fun q h=> ?_)
 ·unfold zD at h;refine z.c0.g ?_;refine zo h (fun _ h=> ?_) (fun _ h=> ?_)
  ·refine z.c.I.g ?_;refine Z5 h (fun v3 _ h=> ?_);refine z.r.a1.c6.w.d0.b3.g ?_;refine zo h (fun _ h=> ?_) (fun _ h=> ?_)
   ·refine z.T.a.N.g ?_;refine QD h (fun v4 ev4 h=> ?_);refine QL ev4 ?_;refine l_addw ?_;refine QD h (fun v5 ev5 h=> ?_);refine l_put0 ev5 h (fun v6 ev6 h=> ?_);refine z.p.d.g ?_;refine l_relen 30 v6.length ?_;refine QD h (fun v7 ev7 h=> ?_);refine QL ev7 ?_;refine z.B.g ?_;refine zb h (fun _ h=> ?_) (fun _ h=> ?_)
    ·refine z.e0.j.j.g ?_;exact zq [] hB h
    refine z.V.b8.h6.b0.F.u.F.u.g ?_;refine zo h (fun _ h=> ?_) (fun _ h=> ?_)
    ·refine z.i4.g ?_;exact zq [] hB h
    refine z.d2.g ?_;refine JD 3 v6.length ?_;exact zt [(1011,1011)] hB h
   refine z.j0.g ?_;refine QD h (fun v8 ev8 h=> ?_);refine QL ev8 ?_;refine z.B.g ?_;refine zb h (fun _ h=> ?_) (fun _ h=> ?_)
   ·refine z.e0.j.j.g ?_;exact zq [] hB h
   refine z.V.b8.h6.b0.F.u.F.u.g ?_;refine zo h (fun _ h=> ?_) (fun _ h=> ?_)
   ·refine z.i4.g ?_;exact zq [] hB h
   refine z.d2.g ?_;exact zt [(1011,1011)] hB h
  refine z.s.g ?_;exact zq [] hB h
 rcases q with q9|q10
 ·dsimp only [Sum.elim] at h ⊢
  refine z.o.g ?_;apply za [] hB h
 dsimp only [Sum.elim] at h ⊢
 refine z.U.E.g ?_;apply za [] hB h
theorem slices_Clone_Decl_ok {s:(List zz)}{r:(List zz)}(h:Q7 s=some r):XSpec Tryz.prog 133 [.vs s.length (F zB s)] [] (.sl 1 0 r.length) [(1,.row 39 2 0 (F zB r))] []:=by
 unfold Q7 at h;refine zf Tryz.hU Tryz.func133 (fun _ _ _ hB=> ?_);refine z.e5.g ?_;refine l_eqnil (fun bv1 hbv1=> ?_);refine z.d.g ?_;refine k_nd (fun e0=> ?_) (fun _=> ?_)
 ·have e0:=List.eq_nil_of_length_eq_zero (hbv1 e0)
  try rw [e0] at h
  change (some [])=_ at h
  refine z.Z.g ?_;refine f_nilrow (te:=39) (t:=2) 3002 2 ?_;apply za [(3002,1)] hB h
 refine z.a.q0.b.D.g ?_;refine l_appf h (fun v2 _ h=> ?_);refine z.e.g ?_;apply za [(1005,1)] hB h
theorem slices_Clone_Attr_ok {s:(List zw)}{r:(List zw)}(h:Q9 s=some r):XSpec Tryz.prog 138 [.vs s.length (F zI s)] [] (.sl 1 0 r.length) [(1,.row 126 4 0 (F zI r))] []:=by
 unfold Q9 at h;refine zf Tryz.hU Tryz.func138 (fun _ _ _ hB=> ?_);refine z.e5.g ?_;refine l_eqnil (fun bv1 hbv1=> ?_);refine z.d.g ?_;refine k_nd (fun e0=> ?_) (fun _=> ?_)
 ·have e0:=List.eq_nil_of_length_eq_zero (hbv1 e0)
  try rw [e0] at h
  change (some [])=_ at h
  refine z.Z.g ?_;refine f_nilrow (te:=126) (t:=2) 3002 4 ?_;apply za [(3002,1)] hB h
 refine z.a.q0.b.D.g ?_;refine l_appf h (fun v2 _ h=> ?_);refine z.e.g ?_;apply za [(1005,1)] hB h
theorem doc_clone_ok {x:zd}{r:Int×Int×Str×Str×Str×Str×(List zz)×(List zw)}(h:doc_clone x=some r):XSpec Tryz.prog 76 [.agg (zi x)] [] (.agg [I r.1,I r.2.1,S r.2.2.1,S r.2.2.2.1,S r.2.2.2.2.1,S r.2.2.2.2.2.1,.sl 1 0 r.2.2.2.2.2.2.1.length,.sl 2 0 r.2.2.2.2.2.2.2.length]) [(1,.row 39 2 0 (F zB r.2.2.2.2.2.2.1)),(2,.row 126 4 0 (F zI r.2.2.2.2.2.2.2))] []:=by
 unfold doc_clone at h;refine zf Tryz.hU Tryz.func76 (fun _ _ _ hB=> ?_);refine z.a7.d.d0.i6.b.g ?_;refine Z6 [7,9] (.q 0 (.q 1 (.q 3 (.q 4 (.e 2 (.q 6 (.e 5 (.e 7 (.q 8 (.e 9 .done)))))))))) hm ?_;refine z.K.f7.j5.f7.j5.g ?_;refine zH [(1,100501)] [] h (fun _=>slices_Clone_Decl_ok) (fun v1 _ h=> ?_);refine z.K.j5.g ?_;refine zH [(1,100801)] [] h (fun _=>slices_Clone_Attr_ok) (fun v2 _ h=> ?_);refine z.l3.c6.b3.b.P.h3.j5.k6.g ?_;apply za [(100501,1),(100801,2)] hB h
theorem doc_Of_ok {l:(List zd)}{r:(Option qv)×Int}(h:doc_Of l=some r):XSpec Tryz.prog 62 [.vs l.length (F zi l)] [] (.tup [oP qg r.1,I r.2]) [] []:=by
 unfold doc_Of at h;refine zf Tryz.hU Tryz.func62 (fun _ _ _ hB=> ?_);refine z.C.b1.g ?_;refine zl h (fun _=>doc_check_ok) (fun v1 _ h=> ?_);refine z.i.i5.c.Q.a9.b2.g ?_;refine zo h (fun _ h=> ?_) (fun _ h=> ?_)
 ·refine z.o.H.b.g ?_;apply k_retN [] hB h
 refine z.c.g ?_;refine zl h (fun _=>doc_within_ok) (fun v2 _ h=> ?_);refine z.i.i5.g ?_;refine zo h (fun _ h=> ?_) (fun _ h=> ?_)
 ·refine z.o.H.b.g ?_;apply k_retN [] hB h
 refine z.F.c.k0.g ?_;refine l_make (e:=cI) (z:=0) h (fun v3 ev3 h=> ?_);refine z.d6.O.i6.k4.a.g ?_;refine k_nilcell (te:=48) (b1:=1028) (j:=0) 13280 8 ?_;refine zS (fun y4=>⟨[(0,.vs l.length (F zi l)),(6,.ptr 1028 0),(29,.vs l.length (F zi l)),(30,I (l.length:Int)),(31,I y4.1)],[(1028,.box 111 [.sl 13280 0 y4.2.length,.sl 1025 0 v3.length,I v1.1]),(13280,.row 48 8 0 (F zi y4.2)),(1025,.row 3 1 0 (F cI v3))],[]⟩) (fun q8=>(.exit 1,⟨[(0,.vs l.length (F zi l)),(6,.ptr 1028 0)],[(1028,.box 111 [.sl 13280 0 q8.length,.sl 1025 0 v3.length,I v1.1]),(13280,.row 48 8 0 (F zi q8)),(1025,.row 3 1 0 (F cI v3))],[]⟩)) [(1028,1028),(13280,13280),(1025,1025)] hB h (fun y4 t h=> ?_) (fun q8 h=> ?_)
 ·unfold JO at h;refine z.c0.g ?_;refine zo h (fun _ h=> ?_) (fun _ h=> ?_)
  ·refine z.b.I.g ?_;refine Z5 h (fun v5 _ h=> ?_);refine z.c6.d0.b3.g ?_;refine Z6 [8,11] (.q 1 (.q 2 (.q 3 (.q 4 (.q 5 (.s 0 (.e 6 (.e 7 (.e 8 (.q 9 (.q 10 (.e 11 .done)))))))))))) hm ?_;refine z.K.m7.l0.n1.e1.d9.g ?_;refine zH [(1,104101),(2,104102)] [] h (fun _=>doc_clone_ok) (fun v6 _ h=> ?_);refine m_frz 104101 ?_;refine m_frz 104102 ?_;refine ge ?_;refine n_lit (e:=zi) [(zd.mk v6.1 v6.2.1 v6.2.2.1 v6.2.2.2.1 v6.2.2.2.2.1 v6.2.2.2.2.2.1 v6.2.2.2.2.2.2.1 v6.2.2.2.2.2.2.2)] ?_;refine ge ?_;refine n_appo h (fun v7 _ h=> ?_);refine z.d7.h3.m8.m.g ?_;exact zt [(1028,1028),(13280,13280),(1025,1025)] hB h
  refine z.s.g ?_;exact zq [(1028,1028),(13280,13280),(1025,1025)] hB h
 refine z.Q.i.e4.F.a1.E.g ?_;refine zS (fun y9=>⟨[(0,.vs l.length (F zi l)),(6,.ptr 1028 0),(9,I y9.1)],[(1028,.box 111 [.sl 13280 0 q8.length,.sl 1025 0 y9.2.length,I v1.1]),(13280,.row 48 8 0 (F zi q8)),(1025,.row 3 1 0 (F cI y9.2))],[]⟩) (fun q18=>(.exit 3,⟨[(6,.ptr 1028 0)],[(1028,.box 111 [.sl 13280 0 q8.length,.sl 1025 0 q18.length,I v1.1]),(13280,.row 48 8 0 (F zi q8)),(1025,.row 3 1 0 (F cI q18))],[]⟩)) [(1028,1028),(13280,13280),(1025,1025)] hB h (fun y9 t h=> ?_) (fun q18 h=> ?_)
 ·unfold JQ at h;refine z.r.a1.g ?_;refine zo h (fun _ h=> ?_) (fun _ h=> ?_)
  ·refine z.a7.I.g ?_;refine Z6 [16] (.q 0 (.q 1 (.q 2 (.q 3 (.q 4 (.q 5 (.q 6 (.q 7 (.q 8 (.q 9 (.q 10 (.q 11 (.q 12 (.q 13 (.q 14 (.q 15 (.e 16 .done))))))))))))))))) hm ?_;refine z.x.f7.d9.j1.f7.d9.g ?_;refine Zb h (fun v10 ev10 h=> ?_);refine gq ?_;refine n_ldr0 ev10 ?_;refine z.m.q1.m.o7.x.g ?_;refine Zb h (fun v11 ev11 h=> ?_);refine ge ?_;refine n_put0 ev11 h (fun v12 ev12 h=> ?_);refine z.p.P.e7.g ?_;refine Z5 h (fun v13 _ h=> ?_);refine z.r.C.T.g ?_;refine zo h (fun _ h=> ?_) (fun _ h=> ?_)
   ·refine Z6 [21] (.q 0 (.q 1 (.q 2 (.q 3 (.q 4 (.q 5 (.q 6 (.q 7 (.q 8 (.q 9 (.q 10 (.q 11 (.q 12 (.q 13 (.q 14 (.q 15 (.q 16 (.q 17 (.q 18 (.q 19 (.q 20 (.e 21 .done)))))))))))))))))))))) hm ?_;refine z.j1.f7.d9.j1.f7.d9.g ?_;refine m_relen 85 v12.length ?_;refine gq ?_;refine Zb h (fun v14 ev14 h=> ?_);refine gq ?_;refine n_ldr0 ev14 ?_;refine z.j1.f7.d9.g ?_;refine m_relen 92 v12.length ?_;refine gq ?_;refine Zb h (fun v15 ev15 h=> ?_);refine gq ?_;refine n_ldr0 ev15 ?_;refine z.q1.m.g ?_;refine m_relen 80 v12.length ?_;refine gq ?_;refine Zb h (fun v16 ev16 h=> ?_);refine ge ?_;refine n_put0 ev16 h (fun v17 ev17 h=> ?_);refine z.q.e4.f.f8.e7.g ?_;refine f_relenc 1028 1 v17.length ?_;exact zt [(1028,1028),(13280,13280),(1025,1025)] hB h
   refine z.q.e4.f.k0.g ?_;refine f_relenc 1028 1 v12.length ?_;exact zt [(1028,1028),(13280,13280),(1025,1025)] hB h
  refine z.s.g ?_;exact zq [(1028,1028),(13280,13280),(1025,1025)] hB h
 refine z.H.c.E.g ?_;refine f_frz 13280 ?_;refine f_frz 1025 ?_;refine f_frz 1028 ?_;apply za [] hB h
theorem zL {u1:Str}{u2:Bool}{u3:Bool}{u4:(List zd)}{u5:(List zp)}{u6:Str}{r:Bool×Str}(h:zx u1 u2 u3 u4 u5 u6=some r):XSpec Tryz.prog 100 [.ptr 26000101 0] [(26000101,.box 104 [S u1,.sl 26000102 0 u4.length,.sl 26000103 0 u5.length,.nptr u2 26000101 3,.sl 26000104 0 u6.length,B u3]),(26000102,.row 48 8 0 (F zi u4)),(26000103,.row 194 2 0 (F zn u5)),(26000104,.row 5 1 0 (F cU u6))] (B r.1) [(26000101,.box 104 [S r.2,.sl 26000102 0 u4.length,.sl 26000103 0 u5.length,.nptr u2 26000101 3,.sl 26000104 0 u6.length,B u3]),(26000102,.row 48 8 0 (F zi u4)),(26000103,.row 194 2 0 (F zn u5)),(26000104,.row 5 1 0 (F cU u6))] []:=by
 unfold zx at h;refine zf Tryz.hU Tryz.func100 (fun _ _ _ hB=> ?_);refine z.Q.a9.b.i.b.g ?_;refine zS (fun y1=>⟨[(0,.ptr 26000101 0),(3,I y1)],[(26000101,.box 104 [S u1,.sl 26000102 0 u4.length,.sl 26000103 0 u5.length,.nptr u2 26000101 3,.sl 26000104 0 u6.length,B u3]),(26000102,.row 48 8 0 (F zi u4)),(26000103,.row 194 2 0 (F zn u5)),(26000104,.row 5 1 0 (F cU u6))],[]⟩) (fun q4=>(.exit 0,⟨[(0,.ptr 26000101 0),(3,I q4)],[(26000101,.box 104 [S u1,.sl 26000102 0 u4.length,.sl 26000103 0 u5.length,.nptr u2 26000101 3,.sl 26000104 0 u6.length,B u3]),(26000102,.row 48 8 0 (F zi u4)),(26000103,.row 194 2 0 (F zn u5)),(26000104,.row 5 1 0 (F cU u6))],[]⟩)) [(26000101,26000101),(26000102,26000102),(26000103,26000103),(26000104,26000104)] hB h (fun y1 t h=> ?_) (fun q4 h=> ?_)
 ·unfold zP at h;refine z.B.Y.b5.j7.g ?_;refine zb h (fun _ h=> ?_) (fun _ h=> ?_)
  ·refine z.h.l4.m0.h.g ?_;refine ZZ h (fun v2 _ h=> ?_);refine l_on ?_;refine zl h (fun _=>Jx) (fun v3 _ h=> ?_);refine z.l8.g ?_;refine zo h (fun _ h=> ?_) (fun _ h=> ?_)
   ·refine z.c3.i8.f.Q.D.g ?_;exact zt [(26000101,26000101),(26000102,26000102),(26000103,26000103),(26000104,26000104)] hB h
   refine z.s.g ?_;exact zq [(26000101,26000101),(26000102,26000102),(26000103,26000103),(26000104,26000104)] hB h
  refine z.s.b7.V.l.j.g ?_;exact zq [(26000101,26000101),(26000102,26000102),(26000103,26000103),(26000104,26000104)] hB h
 refine z.f6.p.E.g ?_;refine Za h (fun v5 _ h=> ?_);refine z.e.a8.c.j9.g ?_;apply za [(26000101,26000101),(26000102,26000102),(26000103,26000103),(26000104,26000104)] hB h
theorem zC {u1:Str}{u2:Str}{u3:Bool}{u4:Bool}{u5:(List zd)}{u6:(List zp)}{u7:Str}{r:Bool×Str}(h:zu u1 u2 u3 u4 u5 u6 u7=some r):XSpec Tryz.prog 104 [.ptr 28000101 0,S u1] [(28000101,.box 104 [S u2,.sl 28000102 0 u5.length,.sl 28000103 0 u6.length,.nptr u3 28000101 3,.sl 28000104 0 u7.length,B u4]),(28000102,.row 48 8 0 (F zi u5)),(28000103,.row 194 2 0 (F zn u6)),(28000104,.row 5 1 0 (F cU u7))] (B r.1) [(28000101,.box 104 [S r.2,.sl 28000102 0 u5.length,.sl 28000103 0 u6.length,.nptr u3 28000101 3,.sl 28000104 0 u7.length,B u4]),(28000102,.row 48 8 0 (F zi u5)),(28000103,.row 194 2 0 (F zn u6)),(28000104,.row 5 1 0 (F cU u7))] []:=by
 unfold zu at h;refine zf Tryz.hU Tryz.func104 (fun _ _ _ hB=> ?_);refine z.f6.b4.g ?_;refine zl h (fun _=>Je) (fun v1 _ h=> ?_);refine z.d.O.b2.g ?_;refine zo h (fun _ h=> ?_) (fun _ h=> ?_)
 ·refine z.e.c.j9.N.g ?_;apply za [(28000101,28000101),(28000102,28000102),(28000103,28000103),(28000104,28000104)] hB h
 refine z.e.v.g ?_;apply za [(28000101,28000101),(28000102,28000102),(28000103,28000103),(28000104,28000104)] hB h
theorem Zs {u1:Str}{u2:Str}{u3:Bool}{u4:Bool}{u5:(List zd)}{u6:(List zp)}{u7:Str}{r:Str×Bool×Str}(h:qh u1 u2 u3 u4 u5 u6 u7=some r):XSpec Tryz.prog 105 [.ptr 30000101 0,S u1] [(30000101,.box 104 [S u2,.sl 30000102 0 u5.length,.sl 30000103 0 u6.length,.nptr u3 30000101 3,.sl 30000104 0 u7.length,B u4]),(30000102,.row 48 8 0 (F zi u5)),(30000103,.row 194 2 0 (F zn u6)),(30000104,.row 5 1 0 (F cU u7))] (.tup [S r.1,B r.2.1]) [(30000101,.box 104 [S r.2.2,.sl 30000102 0 u5.length,.sl 30000103 0 u6.length,.nptr u3 30000101 3,.sl 30000104 0 u7.length,B u4]),(30000102,.row 48 8 0 (F zi u5)),(30000103,.row 194 2 0 (F zn u6)),(30000104,.row 5 1 0 (F cU u7))] []:=by
 unfold qh at h;refine zf Tryz.hU Tryz.func105 (fun _ _ _ hB=> ?_);refine z.f6.C.b1.g ?_;refine zl h (fun _=>qK) (fun v1 _ h=> ?_);refine z.d.O.w.w.j2.j8.g ?_;refine zo h (fun _ h=> ?_) (fun _ h=> ?_)
 ·refine z.H.p.j9.N.g ?_;apply za [(30000101,30000101),(30000102,30000102),(30000103,30000103),(30000104,30000104)] hB h
 refine z.H.j0.g ?_;apply za [(30000101,30000101),(30000102,30000102),(30000103,30000103),(30000104,30000104)] hB h
theorem Z7 {u1:Str}{u2:Bool}{u3:Bool}{u4:(List zd)}{u5:(List zp)}{u6:Str}{r:Str×Bool×Str}(h:ql u1 u2 u3 u4 u5 u6=some r):XSpec Tryz.prog 159 [.ptr 29000101 0] [(29000101,.box 104 [S u1,.sl 29000102 0 u4.length,.sl 29000103 0 u5.length,.nptr u2 29000101 3,.sl 29000104 0 u6.length,B u3]),(29000102,.row 48 8 0 (F zi u4)),(29000103,.row 194 2 0 (F zn u5)),(29000104,.row 5 1 0 (F cU u6))] (.tup [S r.1,B r.2.1]) [(29000101,.box 104 [S r.2.2,.sl 29000102 0 u4.length,.sl 29000103 0 u5.length,.nptr u2 29000101 3,.sl 29000104 0 u6.length,B u3]),(29000102,.row 48 8 0 (F zi u4)),(29000103,.row 194 2 0 (F zn u5)),(29000104,.row 5 1 0 (F cU u6))] []:=by
 unfold ql at h;refine zf Tryz.hU Tryz.func159 (fun _ _ _ hB=> ?_);refine z.C.b1.g ?_;refine zj [(26000101,29000101),(26000102,29000102),(26000103,29000103),(26000104,29000104)] [29000101,29000102,29000103,29000104] h (fun _=>zL) (fun v1 _ h=> ?_);refine z.a1.d.g ?_;refine zj [(28000101,29000101),(28000102,29000102),(28000103,29000103),(28000104,29000104)] [29000101,29000102,29000103,29000104] h (fun _=>zC) (fun v2 _ h=> ?_);refine z.c7.g ?_;refine zo h (fun _ h=> ?_) (fun _ h=> ?_)
 ·refine z.M.g ?_;apply za [(29000101,29000101),(29000102,29000102),(29000103,29000103),(29000104,29000104)] hB h
 refine z.v.g ?_;refine zj [(26000101,29000101),(26000102,29000102),(26000103,29000103),(26000104,29000104)] [29000101,29000102,29000103,29000104] h (fun _=>zL) (fun v3 _ h=> ?_);refine z.a7.a7.d.g ?_;refine qW (fun q6=>(.normal,⟨[(0,.ptr 29000101 0),(25,B q6)],[(29000101,.box 104 [S v3.2,.sl 29000102 0 u4.length,.sl 29000103 0 u5.length,.nptr u2 29000101 3,.sl 29000104 0 u6.length,B u3]),(29000102,.row 48 8 0 (F zi u4)),(29000103,.row 194 2 0 (F zn u5)),(29000104,.row 5 1 0 (F cU u6))],[]⟩)) h (fun t h=> ?_) (fun q6 h=> ?_)
 ·refine z.a.c2.b5.f.g ?_;refine zb h (fun _ h=> ?_) (fun _ h=> ?_)
  ·refine z.L.l.j.g ?_;exact zm [(29000101,29000101),(29000102,29000102),(29000103,29000103),(29000104,29000104)] hB h
  refine z.u.m0.h.g ?_;refine Za h (fun v4 _ h=> ?_);refine l_on ?_;refine zl h (fun _=>Zg) (fun v5 _ h=> ?_);refine z.c8.R.g ?_;exact zm [(29000101,29000101),(29000102,29000102),(29000103,29000103),(29000104,29000104)] hB h
 refine f_t ?_;refine zo h (fun _ h=> ?_) (fun _ h=> ?_)
 ·refine z.M.g ?_;apply za [(29000101,29000101),(29000102,29000102),(29000103,29000103),(29000104,29000104)] hB h
 refine z.b5.v.g ?_;refine Za h (fun v7 _ h=> ?_);refine z.b5.A.g ?_;refine Za h (fun v8 _ h=> ?_);refine z.p.j9.g ?_;refine zj [(30000101,29000101),(30000102,29000102),(30000103,29000103),(30000104,29000104)] [29000101,29000102,29000103,29000104] h (fun _=>Zs) (fun v9 _ h=> ?_);refine z.H.m3.g ?_;apply za [(29000101,29000101),(29000102,29000102),(29000103,29000103),(29000104,29000104)] hB h
theorem JR {u1:Str}{u2:Str}{u3:Bool}{u4:Bool}{u5:(List zd)}{u6:(List zp)}{u7:Str}{u8:(List Str)}{r:Bool×Str}(h:qT u1 u2 u3 u4 u5 u6 u7 u8=some r):XSpec Tryz.prog 102 [.ptr 27000101 0,S u1,.sl 27000105 0 u8.length] [(27000101,.box 104 [S u2,.sl 27000102 0 u5.length,.sl 27000103 0 u6.length,.nptr u3 27000101 3,.sl 27000104 0 u7.length,B u4]),(27000102,.row 48 8 0 (F zi u5)),(27000103,.row 194 2 0 (F zn u6)),(27000104,.row 5 1 0 (F cU u7)),(27000105,.row 9 1 0 (F cS u8))] (B r.1) [(27000101,.box 104 [S r.2,.sl 27000102 0 u5.length,.sl 27000103 0 u6.length,.nptr u3 27000101 3,.sl 27000104 0 u7.length,B u4]),(27000102,.row 48 8 0 (F zi u5)),(27000103,.row 194 2 0 (F zn u6)),(27000104,.row 5 1 0 (F cU u7)),(27000105,.row 9 1 0 (F cS u8))] []:=by
 unfold qT at h;refine zf Tryz.hU Tryz.func102 (fun _ _ _ hB=> ?_);refine z.e2.b5.b4.g ?_;refine qW (fun q3=>(.normal,⟨[(0,.ptr 27000101 0),(2,.sl 27000105 0 u8.length),(7,S u2),(24,B q3.1)],[(27000101,.box 104 [S q3.2,.sl 27000102 0 u5.length,.sl 27000103 0 u6.length,.nptr u3 27000101 3,.sl 27000104 0 u7.length,B u4]),(27000102,.row 48 8 0 (F zi u5)),(27000103,.row 194 2 0 (F zn u6)),(27000104,.row 5 1 0 (F cU u7)),(27000105,.row 9 1 0 (F cS u8))],[]⟩)) h (fun t h=> ?_) (fun q3 h=> ?_)
 ·refine z.f.g ?_;refine zj [(26000101,27000101),(26000102,27000102),(26000103,27000103),(26000104,27000104)] [27000101,27000102,27000103,27000104] h (fun _=>zL) (fun v1 _ h=> ?_);refine z.h8.g ?_;refine zb h (fun _ h=> ?_) (fun _ h=> ?_)
  ·refine z.L.j.g ?_;exact zm [(27000101,27000101),(27000102,27000102),(27000103,27000103),(27000104,27000104),(27000105,27000105)] hB h
  refine z.h7.g ?_;refine zj [(28000101,27000101),(28000102,27000102),(28000103,27000103),(28000104,27000104)] [27000101,27000102,27000103,27000104] h (fun _=>zC) (fun v2 _ h=> ?_);refine z.c8.R.g ?_;exact zm [(27000101,27000101),(27000102,27000102),(27000103,27000103),(27000104,27000104),(27000105,27000105)] hB h
 refine f_t ?_;refine zo h (fun _ h=> ?_) (fun _ h=> ?_)
 ·refine z.Z.j9.p.g ?_;apply za [(27000101,27000101),(27000102,27000102),(27000103,27000103),(27000104,27000104),(27000105,27000105)] hB h
 refine z.v.g ?_;refine zj [(29000101,27000101),(29000102,27000102),(29000103,27000103),(29000104,27000104)] [27000101,27000102,27000103,27000104] h (fun _=>Z7) (fun v4 _ h=> ?_);refine z.d6.O.b2.g ?_;refine zS (fun y5=>⟨[(8,S v4.1),(9,B v4.2.1),(34,.sl 27000105 0 u8.length),(35,I (u8.length:Int)),(36,I y5)],[(27000101,.box 104 [S v4.2.2,.sl 27000102 0 u5.length,.sl 27000103 0 u6.length,.nptr u3 27000101 3,.sl 27000104 0 u7.length,B u4]),(27000102,.row 48 8 0 (F zi u5)),(27000103,.row 194 2 0 (F zn u6)),(27000104,.row 5 1 0 (F cU u7)),(27000105,.row 9 1 0 (F cS u8))],[]⟩) (Sum.elim (fun q7=>(.ret,⟨[(6,B true)],[(27000101,.box 104 [S v4.2.2,.sl 27000102 0 u5.length,.sl 27000103 0 u6.length,.nptr u3 27000101 3,.sl 27000104 0 u7.length,B u4]),(27000102,.row 48 8 0 (F zi u5)),(27000103,.row 194 2 0 (F zn u6)),(27000104,.row 5 1 0 (F cU u7)),(27000105,.row 9 1 0 (F cS u8))],[]⟩)) (fun q8=>(.exit 0,⟨[],[(27000101,.box 104 [S v4.2.2,.sl 27000102 0 u5.length,.sl 27000103 0 u6.length,.nptr u3 27000101 3,.sl 27000104 0 u7.length,B u4]),(27000102,.row 48 8 0 (F zi u5)),(27000103,.row 194 2 0 (F zn u6)),(27000104,.row 5 1 0 (F cU u7)),(27000105,.row 9 1 0 (F cS u8))],[]⟩))) [(27000101,27000101),(27000102,27000102),(27000103,27000103),(27000104,27000104),(27000105,27000105)] hB h (fun y5 t h=> ?_) (fun q h=> ?_)
 ·unfold zO at h;refine z.c0.g ?_;refine zo h (fun _ h=> ?_) (fun _ h=> ?_)
  ·refine z.b.I.g ?_;refine QD h (fun v6 ev6 h=> ?_);refine QL ev6 ?_;refine z.A.g ?_;refine zb h (fun _ h=> ?_) (fun _ h=> ?_)
   ·refine z.l8.c2.h7.g ?_;refine zo h (fun _ h=> ?_) (fun _ h=> ?_)
    ·refine z.i4.g ?_;exact zq [(27000101,27000101),(27000102,27000102),(27000103,27000103),(27000104,27000104),(27000105,27000105)] hB h
    refine z.d2.g ?_;exact zt [(27000101,27000101),(27000102,27000102),(27000103,27000103),(27000104,27000104),(27000105,27000105)] hB h
   refine z.d2.b7.V.l.g ?_;exact zt [(27000101,27000101),(27000102,27000102),(27000103,27000103),(27000104,27000104),(27000105,27000105)] hB h
  refine z.s.g ?_;exact zq [(27000101,27000101),(27000102,27000102),(27000103,27000103),(27000104,27000104),(27000105,27000105)] hB h
 rcases q with q7|q8
 ·dsimp only [Sum.elim] at h ⊢
  refine z.o.g ?_;apply za [(27000101,27000101),(27000102,27000102),(27000103,27000103),(27000104,27000104),(27000105,27000105)] hB h
 dsimp only [Sum.elim] at h ⊢
 refine z.U.E.g ?_;apply za [(27000101,27000101),(27000102,27000102),(27000103,27000103),(27000104,27000104),(27000105,27000105)] hB h
theorem parse_reader_encoding_s1_ok {u1:Str}{u2:Bool}{u3:Bool}{u4:(List zd)}{u5:(List zp)}{u6:Str}{r:Bool×Str}(h:qJ u1 u2 u3 u4 u5 u6=some r):XSpec Tryz.prog 103 [.ptr 31000101 0] [(31000101,.box 104 [S u1,.sl 31000102 0 u4.length,.sl 31000103 0 u5.length,.nptr u2 31000101 3,.sl 31000104 0 u6.length,B u3]),(31000102,.row 48 8 0 (F zi u4)),(31000103,.row 194 2 0 (F zn u5)),(31000104,.row 5 1 0 (F cU u6))] (B r.1) [(31000101,.box 104 [S r.2,.sl 31000102 0 u4.length,.sl 31000103 0 u5.length,.nptr u2 31000101 3,.sl 31000104 0 u6.length,B u3]),(31000102,.row 48 8 0 (F zi u4)),(31000103,.row 194 2 0 (F zn u5)),(31000104,.row 5 1 0 (F cU u6))] []:=by
 unfold qJ at h;refine zf Tryz.hU Tryz.func103 (fun _ _ _ hB=> ?_);refine z.e2.b5.b4.g ?_;refine qW (fun q3=>(.normal,⟨[(0,.ptr 31000101 0),(3,S u1),(17,B q3.1)],[(31000101,.box 104 [S q3.2,.sl 31000102 0 u4.length,.sl 31000103 0 u5.length,.nptr u2 31000101 3,.sl 31000104 0 u6.length,B u3]),(31000102,.row 48 8 0 (F zi u4)),(31000103,.row 194 2 0 (F zn u5)),(31000104,.row 5 1 0 (F cU u6))],[]⟩)) h (fun t h=> ?_) (fun q3 h=> ?_)
 ·refine z.f.g ?_;refine zj [(26000101,31000101),(26000102,31000102),(26000103,31000103),(26000104,31000104)] [31000101,31000102,31000103,31000104] h (fun _=>zL) (fun v1 _ h=> ?_);refine z.h8.g ?_;refine zb h (fun _ h=> ?_) (fun _ h=> ?_)
  ·refine z.L.l.g ?_;exact zm [(31000101,31000101),(31000102,31000102),(31000103,31000103),(31000104,31000104)] hB h
  refine z.h.g ?_;refine zj [(28000101,31000101),(28000102,31000102),(28000103,31000103),(28000104,31000104)] [31000101,31000102,31000103,31000104] h (fun _=>zC) (fun v2 _ h=> ?_);refine z.c8.R.g ?_;exact zm [(31000101,31000101),(31000102,31000102),(31000103,31000103),(31000104,31000104)] hB h
 refine f_t ?_;refine zo h (fun _ h=> ?_) (fun _ h=> ?_)
 ·refine z.Z.j9.p.g ?_;apply za [(31000101,31000101),(31000102,31000102),(31000103,31000103),(31000104,31000104)] hB h
 refine z.v.g ?_;refine zj [(29000101,31000101),(29000102,31000102),(29000103,31000103),(29000104,31000104)] [31000101,31000102,31000103,31000104] h (fun _=>Z7) (fun v4 _ h=> ?_);refine z.A.b2.g ?_;refine zb h (fun _ h=> ?_) (fun _ h=> ?_)
 ·refine z.h.g ?_;refine zl h (fun _=>parse_fold_ok) (fun v5 _ h=> ?_);refine z.X.c2.b0.g ?_;apply za [(31000101,31000101),(31000102,31000102),(31000103,31000103),(31000104,31000104)] hB h
 refine z.c1.l.g ?_;apply za [(31000101,31000101),(31000102,31000102),(31000103,31000103),(31000104,31000104)] hB h
theorem parse_reader_declaration_s1_ok {u1:Str}{u2:Bool}{u3:Bool}{u4:(List zd)}{u5:(List zp)}{u6:Str}{r:Bool×Str}(h:qw u1 u2 u3 u4 u5 u6=some r):XSpec Tryz.prog 60 [.ptr 25000101 0] [(25000101,.box 104 [S u1,.sl 25000102 0 u4.length,.sl 25000103 0 u5.length,.nptr u2 25000101 3,.sl 25000104 0 u6.length,B u3]),(25000102,.row 48 8 0 (F zi u4)),(25000103,.row 194 2 0 (F zn u5)),(25000104,.row 5 1 0 (F cU u6))] (B r.1) [(25000101,.box 104 [S r.2,.sl 25000102 0 u4.length,.sl 25000103 0 u5.length,.nptr u2 25000101 3,.sl 25000104 0 u6.length,B u3]),(25000102,.row 48 8 0 (F zi u4)),(25000103,.row 194 2 0 (F zn u5)),(25000104,.row 5 1 0 (F cU u6))] []:=by
 unfold qw at h;refine zf Tryz.hU Tryz.func60 (fun _ _ _ hB=> ?_);refine z.e2.b.g ?_;refine qW (fun q4=>(.normal,⟨[(0,.ptr 25000101 0),(26,B q4)],[(25000101,.box 104 [S u1,.sl 25000102 0 u4.length,.sl 25000103 0 u5.length,.nptr u2 25000101 3,.sl 25000104 0 u6.length,B u3]),(25000102,.row 48 8 0 (F zi u4)),(25000103,.row 194 2 0 (F zn u5)),(25000104,.row 5 1 0 (F cU u6))],[]⟩)) h (fun t h=> ?_) (fun q4 h=> ?_)
 ·refine z.B.Y.b5.f.g ?_;refine zb h (fun _ h=> ?_) (fun _ h=> ?_)
  ·refine z.L.l.W.i1.g ?_;exact zm [(25000101,25000101),(25000102,25000102),(25000103,25000103),(25000104,25000104)] hB h
  refine z.u.m0.h.g ?_;refine Za h (fun v1 _ h=> ?_);refine z.n.f5.b0.g ?_;refine zb h (fun _ h=> ?_) (fun _ h=> ?_)
  ·refine z.L.l.j.g ?_;exact zm [(25000101,25000101),(25000102,25000102),(25000103,25000103),(25000104,25000104)] hB h
  refine z.u.m0.h.g ?_;refine ZZ h (fun v2 _ h=> ?_);refine l_on ?_;refine zl h (fun _=>Jx) (fun v3 _ h=> ?_);refine z.c8.R.g ?_;exact zm [(25000101,25000101),(25000102,25000102),(25000103,25000103),(25000104,25000104)] hB h
 refine f_t ?_;refine zo h (fun _ h=> ?_) (fun _ h=> ?_)
 ·refine z.Z.g ?_;apply za [(25000101,25000101),(25000102,25000102),(25000103,25000103),(25000104,25000104)] hB h
 refine z.b5.j0.g ?_;refine Za h (fun v5 _ h=> ?_);refine z.C.b5.c.j9.g ?_;refine zj [(26000101,25000101),(26000102,25000102),(26000103,25000103),(26000104,25000104)] [25000101,25000102,25000103,25000104] h (fun _=>zL) (fun v6 _ h=> ?_);refine z.b5.a1.d.g ?_;refine zl h (fun _=>strings_HasPrefix_ok) (fun v7 _ h=> ?_);refine z.c7.g ?_;refine zo h (fun _ h=> ?_) (fun _ h=> ?_)
 ·refine z.Z.g ?_;apply za [(25000101,25000101),(25000102,25000102),(25000103,25000103),(25000104,25000104)] hB h
 refine z.a1.j9.j0.g ?_;refine QY (e:=cS) [[49,46,48]] ?_;refine zj [(27000101,25000101),(27000102,25000102),(27000103,25000103),(27000104,25000104),(27000105,1052)] [25000101,25000102,25000103,25000104,1052] h (fun _=>JR) (fun v8 _ h=> ?_);refine z.h8.g ?_;refine zb h (fun _ h=> ?_) (fun _ h=> ?_)
 ·refine z.Z.f4.W.l.g ?_;apply za [(25000101,25000101),(25000102,25000102),(25000103,25000103),(25000104,25000104)] hB h
 refine z.h.g ?_;refine zj [(31000101,25000101),(31000102,25000102),(31000103,25000103),(31000104,25000104)] [25000101,25000102,25000103,25000104] h (fun _=>parse_reader_encoding_s1_ok) (fun v9 _ h=> ?_);refine l_to [(25000101,25000101),(25000102,25000102),(25000103,25000103),(25000104,25000104)] ⟨[(0,.ptr 25000101 0),(55,B false),(57,B v9.1)],[(25000101,.box 104 [S v9.2,.sl 25000102 0 u4.length,.sl 25000103 0 u5.length,.nptr u2 25000101 3,.sl 25000104 0 u6.length,B u3]),(25000102,.row 48 8 0 (F zi u4)),(25000103,.row 194 2 0 (F zn u5)),(25000104,.row 5 1 0 (F cU u6))],[]⟩ hB ?_;refine z.n.R.g ?_;refine zb h (fun _ h=> ?_) (fun _ h=> ?_)
 ·refine z.Z.f4.j.g ?_;apply za [(25000101,25000101),(25000102,25000102),(25000103,25000103),(25000104,25000104)] hB h
 refine z.h.g ?_;refine QY (e:=cS) [[121,101,115],[110,111]] ?_;refine l_on ?_;refine zj [(27000101,25000101),(27000102,25000102),(27000103,25000103),(27000104,25000104),(27000105,1062)] [25000101,25000102,25000103,25000104,1062] h (fun _=>JR) (fun v10 _ h=> ?_);refine z.V.R.g ?_;refine zo h (fun _ h=> ?_) (fun _ h=> ?_)
 ·refine z.Z.g ?_;apply za [(25000101,25000101),(25000102,25000102),(25000103,25000103),(25000104,25000104)] hB h
 refine z.v.g ?_;refine zj [(26000101,25000101),(26000102,25000102),(26000103,25000103),(26000104,25000104)] [25000101,25000102,25000103,25000104] h (fun _=>zL) (fun v11 _ h=> ?_);refine z.d1.g ?_;refine zj [(28000101,25000101),(28000102,25000102),(28000103,25000103),(28000104,25000104)] [25000101,25000102,25000103,25000104] h (fun _=>zC) (fun v12 _ h=> ?_);refine z.e.g ?_;apply za [(25000101,25000101),(25000102,25000102),(25000103,25000103),(25000104,25000104)] hB h
theorem strings_Builder_Len_s1_ok {u1:Str}{u2:Bool}{u3:Bool}{u4:(List zd)}{u5:(List zp)}{u6:Str}{r:Int}(h:ZO u1 u2 u3 u4 u5 u6=some r):XSpec Tryz.prog 213 [.ptr 35000101 3] [(35000101,.box 104 [S u1,.sl 35000102 0 u4.length,.sl 35000103 0 u5.length,.nptr u2 35000101 3,.sl 35000104 0 u6.length,B u3]),(35000102,.row 48 8 0 (F zi u4)),(35000103,.row 194 2 0 (F zn u5)),(35000104,.row 5 1 0 (F cU u6))] (I r) [(35000101,.box 104 [S u1,.sl 35000102 0 u4.length,.sl 35000103 0 u5.length,.nptr u2 35000101 3,.sl 35000104 0 u6.length,B u3]),(35000102,.row 48 8 0 (F zi u4)),(35000103,.row 194 2 0 (F zn u5)),(35000104,.row 5 1 0 (F cU u6))] []:=by
 unfold ZO at h;refine zf Tryz.hU Tryz.func213 (fun _ _ _ hB=> ?_);refine z.e.F.b5.b4.g ?_;apply za [(35000101,35000101),(35000102,35000102),(35000103,35000103),(35000104,35000104)] hB h
theorem Zl {u1:Str}{u2:Bool}{u3:Bool}{u4:(List zd)}{u5:(List zp)}{u6:Str}{r:Int}(h:qm u1 u2 u3 u4 u5 u6=some r):XSpec Tryz.prog 163 [.ptr 36000101 0] [(36000101,.box 104 [S u1,.sl 36000102 0 u4.length,.sl 36000103 0 u5.length,.nptr u2 36000101 3,.sl 36000104 0 u6.length,B u3]),(36000102,.row 48 8 0 (F zi u4)),(36000103,.row 194 2 0 (F zn u5)),(36000104,.row 5 1 0 (F cU u6))] (I r) [(36000101,.box 104 [S u1,.sl 36000102 0 u4.length,.sl 36000103 0 u5.length,.nptr u2 36000101 3,.sl 36000104 0 u6.length,B u3]),(36000102,.row 48 8 0 (F zi u4)),(36000103,.row 194 2 0 (F zn u5)),(36000104,.row 5 1 0 (F cU u6))] []:=by
 unfold qm at h;refine zf Tryz.hU Tryz.func163 (fun _ _ _ hB=> ?_);refine z.r.F.b5.e5.g ?_;refine zo h (fun _ h=> ?_) (fun _ h=> ?_)
 ·refine z.Z.g ?_;apply za [(36000101,36000101),(36000102,36000102),(36000103,36000103),(36000104,36000104)] hB h
 refine z.h4.g ?_;refine Z6 [] (.q 0 (.q 1 (.q 2 (.q 3 (.q 4 (.q 5 (.q 6 (.q 7 (.q 8 (.q 9 (.q 10 (.q 11 (.q 12 (.q 13 .done)))))))))))))) hm ?_;refine z.m.o8.m.m2.e1.d9.f7.d9.g ?_;refine Zb h (fun v1 ev1 h=> ?_);refine z.m.j5.g ?_;refine n_ldr0 ev1 ?_;refine z.l3.P.e7.l5.m.g ?_;apply za [(36000101,36000101),(36000102,36000102),(36000103,36000103),(36000104,36000104)] hB h
theorem ZF {u1:Str}{u2:Bool}{u3:Bool}{u4:(List zd)}{u5:(List zp)}{u6:Str}{r:Str}(h:Zj u1 u2 u3 u4 u5 u6=some r):XSpec Tryz.prog 79 [.ptr 37000101 3] [(37000101,.box 104 [S u1,.sl 37000102 0 u4.length,.sl 37000103 0 u5.length,.nptr u2 37000101 3,.sl 37000104 0 u6.length,B u3]),(37000102,.row 48 8 0 (F zi u4)),(37000103,.row 194 2 0 (F zn u5)),(37000104,.row 5 1 0 (F cU u6))] (S r) [(37000101,.box 104 [S u1,.sl 37000102 0 u4.length,.sl 37000103 0 u5.length,.nptr u2 37000101 3,.junk,B u3]),(37000102,.row 48 8 0 (F zi u4)),(37000103,.row 194 2 0 (F zn u5))] [37000104]:=by
 unfold Zj at h;refine zf Tryz.hU Tryz.func79 (fun _ _ _ hB=> ?_);refine z.a9.b.g ?_;refine Z6 [10] (.q 0 (.q 1 (.q 2 (.q 3 (.q 5 (.q 6 (.q 7 (.q 8 (.q 9 (.e 4 (.e 10 (.q 11 .done)))))))))))) hm ?_;refine z.K.p8.K.m2.e1.d9.f7.d9.g ?_;refine n_ustr h (fun v1 _ h=> ?_);refine z.l3.P.e7.l5.m.g ?_;apply za [(37000101,37000101),(37000102,37000102),(37000103,37000103)] hB h
theorem strings_Builder_Reset_s1_ok {u1:Str}{u2:Bool}{u3:Bool}{u4:(List zd)}{u5:(List zp)}{r:Unit}(h:Zr u1 u2 u3 u4 u5=some r):XSpec Tryz.prog 214 [.ptr 38000101 3] [(38000101,.box 104 [S u1,.sl 38000102 0 u4.length,.sl 38000103 0 u5.length,.nptr u2 38000101 3,.junk,B u3]),(38000102,.row 48 8 0 (F zi u4)),(38000103,.row 194 2 0 (F zn u5))] (.tup []) [(38000101,.box 104 [S u1,.sl 38000102 0 u4.length,.sl 38000103 0 u5.length,.nptr true 38000101 3,.pl (.slice none 0 0),B u3]),(38000102,.row 48 8 0 (F zi u4)),(38000103,.row 194 2 0 (F zn u5))] []:=by
 unfold Zr at h;refine zf Tryz.hU Tryz.func214 (fun _ _ _ hB=> ?_);refine z.d5.l9.b6.f.j9.c.g ?_;refine f_npcell (b:=38000101) (j:=3) 38000101 3 ?_;apply za [(38000101,38000101),(38000102,38000102),(38000103,38000103)] hB h
theorem Qo {u1:Str}{u2:Bool}{u3:Bool}{u4:(List zd)}{u5:(List zp)}{u6:Str}{r:Bool×(List zd)×Str}(h:qr u1 u2 u3 u4 u5 u6=some r):XSpec Tryz.prog 162 [.ptr 34000101 0] [(34000101,.box 104 [S u1,.sl 34000102 0 u4.length,.sl 34000103 0 u5.length,.nptr u2 34000101 3,.sl 34000104 0 u6.length,B u3]),(34000102,.row 48 8 0 (F zi u4)),(34000103,.row 194 2 0 (F zn u5)),(34000104,.row 5 1 0 (F cU u6))] (.tup []) [(34000101,.box 104 [S u1,.sl 34000102 0 r.2.1.length,.sl 34000103 0 u5.length,.nptr r.1 34000101 3,.sl 34000151 0 r.2.2.length,B u3]),(34000102,.row 48 8 0 (F zi r.2.1)),(34000103,.row 194 2 0 (F zn u5)),(34000151,.row 5 1 0 (F cU r.2.2))] [34000102,34000104]:=by
 unfold qr at h;refine zf Tryz.hU Tryz.func162 (fun _ _ _ hB=> ?_);refine z.b6.c.g ?_;refine zj [(35000101,34000101),(35000102,34000102),(35000103,34000103),(35000104,34000104)] [34000101,34000102,34000103,34000104] h (fun _=>strings_Builder_Len_s1_ok) (fun v1 _ h=> ?_);refine z.r.g ?_;refine zo h (fun _ h=> ?_) (fun _ h=> ?_)
 ·refine k_seq ?_;refine qW (fun q5=>(.normal,⟨[(0,.ptr 34000101 0)],[(34000101,.box 104 [S u1,.sl 34000102 0 q5.length,.sl 34000103 0 u5.length,.nptr u2 34000101 3,.junk,B u3]),(34000102,.row 48 8 0 (F zi q5)),(34000103,.row 194 2 0 (F zn u5))],[34000104,34000102]⟩)) h (fun t h=> ?_) (fun q5 h=> ?_)
  ·refine Z6 [6,10,13,16] (.q 5 (.s 0 (.s 1 (.s 2 (.s 3 (.s 7 (.s 8 (.s 9 (.alt 4 (.e 6 (.e 10 (.q 11 (.e 12 (.e 13 (.q 14 (.q 15 (.e 16 .done)))))))) (.e 6 (.alt 4 (.e 10 (.q 11 (.e 12 (.e 13 (.q 14 (.q 15 (.e 16 .done))))))) (.e 10 (.q 4 (.q 11 (.e 12 (.e 13 (.q 14 (.q 15 (.e 16 .done))))))))))))))))))) hm ?_;refine z.p2.l0.q2.l0.m7.l0.p2.l0.q2.l0.m7.l0.m7.l0.j1.g ?_;refine zG ?_ ?_
   ·refine z.K.k9.n9.g ?_;refine zH [(36000101,34000101),(36000102,34000102),(36000103,34000103),(36000104,34000104)] [34000101,34000102,34000103,34000104] h (fun _=>Zl) (fun v2 _ h=> ?_);refine ge ?_;refine zH [(37000101,34000101),(37000102,34000102),(37000103,34000103),(37000104,34000104)] [34000101,34000102,34000103,34000104] h (fun _=>ZF) (fun v3 _ h=> ?_);refine z.o4.m.g ?_;refine m_nilt 18 ?_;refine ge ?_;refine n_lit (e:=zi) [(zd.mk 2 v2 [] [] [] v3 [] [])] ?_;refine ge ?_;refine n_appo h (fun v4 _ h=> ?_);refine z.h3.m8.m.g ?_;exact zm [(34000101,34000101),(34000102,34000102),(34000103,34000103)] hB h
   refine ge ?_;refine zH [(36000101,34000101),(36000102,34000102),(36000103,34000103),(36000104,34000104)] [34000101,34000102,34000103,34000104] h (fun _=>Zl) (fun v2 _ h=> ?_);refine zG ?_ ?_
   ·refine z.K.k9.n9.g ?_;refine zH [(37000101,34000101),(37000102,34000102),(37000103,34000103),(37000104,34000104)] [34000101,34000102,34000103,34000104] h (fun _=>ZF) (fun v3 _ h=> ?_);refine z.o4.m.g ?_;refine m_nilt 18 ?_;refine ge ?_;refine n_lit (e:=zi) [(zd.mk 2 v2 [] [] [] v3 [] [])] ?_;refine ge ?_;refine n_appo h (fun v4 _ h=> ?_);refine z.h3.m8.m.g ?_;exact zm [(34000101,34000101),(34000102,34000102),(34000103,34000103)] hB h
   refine ge ?_;refine zH [(37000101,34000101),(37000102,34000102),(37000103,34000103),(37000104,34000104)] [34000101,34000102,34000103,34000104] h (fun _=>ZF) (fun v3 _ h=> ?_);refine z.o4.e1.g ?_;refine m_nilt 18 ?_;refine ge ?_;refine n_lit (e:=zi) [(zd.mk 2 v2 [] [] [] v3 [] [])] ?_;refine ge ?_;refine n_appo h (fun v4 _ h=> ?_);refine z.h3.m8.m.g ?_;exact zm [(34000101,34000101),(34000102,34000102),(34000103,34000103)] hB h
  refine z.b6.f.P.g ?_;refine zj [(38000101,34000101),(38000102,34000102),(38000103,34000103)] [34000101,34000102,34000103] h (fun _=>strings_Builder_Reset_s1_ok) (fun v6 _ h=> ?_);refine k_nil ?_;refine f_nilcell (te:=5) (b1:=34000101) (j:=4) 340004014 1 ?_;apply za [(34000101,34000101),(34000102,34000102),(34000103,34000103),(340004014,34000151)] hB h
 refine k_skip ?_;apply za [(34000101,34000101),(34000102,34000102),(34000103,34000103),(34000104,34000151)] hB h
theorem QH {u1:Int}{u2:Int}{u3:Str}{u4:Str}{u5:Str}{u6:Str}{u7:Str}{u8:Bool}{u9:Bool}{u10:(List zd)}{u11:(List zp)}{u12:Str}{r:Bool×(List zd)×Str}(h:qD u1 u2 u3 u4 u5 u6 u7 u8 u9 u10 u11 u12=some r):XSpec Tryz.prog 106 [.ptr 33000101 0,.agg [I u1,I u2,S u3,S u4,S u5,S u6,.pl (.slice none 0 0),.pl (.slice none 0 0)]] [(33000101,.box 104 [S u7,.sl 33000102 0 u10.length,.sl 33000103 0 u11.length,.nptr u8 33000101 3,.sl 33000104 0 u12.length,B u9]),(33000102,.row 48 8 0 (F zi u10)),(33000103,.row 194 2 0 (F zn u11)),(33000104,.row 5 1 0 (F cU u12))] (.tup []) [(33000101,.box 104 [S u7,.sl 33000102 0 r.2.1.length,.sl 33000103 0 u11.length,.nptr r.1 33000101 3,.sl 33000151 0 r.2.2.length,B u9]),(33000102,.row 48 8 0 (F zi r.2.1)),(33000103,.row 194 2 0 (F zn u11)),(33000151,.row 5 1 0 (F cU r.2.2))] [33000102,33000104]:=by
 unfold qD at h;refine zf Tryz.hU Tryz.func106 (fun _ _ _ hB=> ?_);refine z.d1.i6.b.g ?_;refine zj [(34000101,33000101),(34000102,33000102),(34000103,33000103),(34000104,33000104),(34000151,100551)] [33000101,33000102,33000103,33000104] h (fun _=>Qo) (fun v1 _ h=> ?_);refine z.d1.g ?_;refine zj [(36000101,33000101),(36000102,33000102),(36000103,33000103),(36000104,100551)] [33000101,33000102,33000103,100551] h (fun _=>Zl) (fun v2 _ h=> ?_);refine z.c6.n4.g ?_;refine Z6 [7,10] (.q 1 (.q 2 (.q 3 (.q 4 (.q 5 (.s 0 (.e 6 (.e 7 (.q 8 (.q 9 (.e 10 .done))))))))))) hm ?_;refine z.m7.l0.n1.e1.d9.g ?_;refine m_nilt 14 ?_;refine ge ?_;refine n_lit (e:=zi) [(zd.mk u1 v2 u3 u4 u5 u6 [] [])] ?_;refine ge ?_;refine n_appo h (fun v3 _ h=> ?_);refine z.h3.m8.m.g ?_;apply za [(33000101,33000101),(33000102,33000102),(33000103,33000103),(100551,33000151)] hB h
theorem strings_Builder_copyCheck_s3_ok {u1:Str}{u2:Bool}{u3:Bool}{u4:(List zd)}{u5:(List zp)}{u6:Str}{r:Unit}(h:qO u1 u2 u3 u4 u5 u6=some r):XSpec Tryz.prog 139 [.ptr 40000101 3] [(40000101,.box 104 [S u1,.sl 40000102 0 u4.length,.sl 40000103 0 u5.length,.nptr u2 40000101 3,.sl 40000104 0 u6.length,B u3]),(40000102,.row 48 8 0 (F zi u4)),(40000103,.row 194 2 0 (F zn u5)),(40000104,.row 5 1 0 (F cU u6))] (.tup []) [(40000101,.box 104 [S u1,.sl 40000102 0 u4.length,.sl 40000103 0 u5.length,.nptr false 40000101 3,.sl 40000104 0 u6.length,B u3]),(40000102,.row 48 8 0 (F zi u4)),(40000103,.row 194 2 0 (F zn u5)),(40000104,.row 5 1 0 (F cU u6))] []:=by
 unfold qO at h;refine zf Tryz.hU Tryz.func139 (fun _ _ _ hB=> ?_);refine z.b5.c.g ?_
 cases u2 with
 |true=>
  replace h:=bif_t h
  refine z.n6.N.d4.d.n2.g ?_;refine l_nat (noEscape_spec Tryz.func193 (.ptr 40000101 3:AV)) ?_;refine l_fromunsafe (P:=Tryz.prog) ?_;refine z.d5.l9.b6.g ?_;apply za [(40000101,40000101),(40000102,40000102),(40000103,40000103),(40000104,40000104)] hB h
 |false=>
  replace h:=bif_f h
  refine z.k5.b7.d.o6.f6.c.b7.d.n2.g ?_;apply za [(40000101,40000101),(40000102,40000102),(40000103,40000103),(40000104,40000104)] hB h
theorem qV {u1:Str}{u2:Str}{u3:Bool}{u4:Bool}{u5:(List zd)}{u6:(List zp)}{u7:Str}{r:Int×Str}(h:zF u1 u2 u3 u4 u5 u6 u7=some r):XSpec Tryz.prog 78 [.ptr 39000101 3,S u1] [(39000101,.box 104 [S u2,.sl 39000102 0 u5.length,.sl 39000103 0 u6.length,.nptr u3 39000101 3,.sl 39000104 0 u7.length,B u4]),(39000102,.row 48 8 0 (F zi u5)),(39000103,.row 194 2 0 (F zn u6)),(39000104,.row 5 1 0 (F cU u7))] (.tup [I r.1,.pl .nilIface]) [(39000101,.box 104 [S u2,.sl 39000102 0 u5.length,.sl 39000103 0 u6.length,.nptr false 39000101 3,.sl 39000104 0 r.2.length,B u4]),(39000102,.row 48 8 0 (F zi u5)),(39000103,.row 194 2 0 (F zn u6)),(39000104,.row 5 1 0 (F cU r.2))] [39000104]:=by
 unfold zF at h;refine zf Tryz.hU Tryz.func78 (fun _ _ _ hB=> ?_);refine z.C.b1.g ?_;refine zj [(40000101,39000101),(40000102,39000102),(40000103,39000103),(40000104,39000104)] [39000101,39000102,39000103,39000104] h (fun _=>strings_Builder_copyCheck_s3_ok) (fun v1 _ h=> ?_);refine z.f6.p.d.g ?_;refine l_apps h (fun v2 _ h=> ?_);refine z.H.Y.c.j9.g ?_;apply za [(39000101,39000101),(39000102,39000102),(39000103,39000103),(39000104,39000104)] hB h
theorem ze {u1:Str}{u2:Bool}{u3:Bool}{u4:(List zd)}{u5:(List zp)}{u6:Str}{r:Str×Str}(h:qk u1 u2 u3 u4 u5 u6=some r):XSpec Tryz.prog 164 [.ptr 42000101 0] [(42000101,.box 104 [S u1,.sl 42000102 0 u4.length,.sl 42000103 0 u5.length,.nptr u2 42000101 3,.sl 42000104 0 u6.length,B u3]),(42000102,.row 48 8 0 (F zi u4)),(42000103,.row 194 2 0 (F zn u5)),(42000104,.row 5 1 0 (F cU u6))] (S r.1) [(42000101,.box 104 [S r.2,.sl 42000102 0 u4.length,.sl 42000103 0 u5.length,.nptr u2 42000101 3,.sl 42000104 0 u6.length,B u3]),(42000102,.row 48 8 0 (F zi u4)),(42000103,.row 194 2 0 (F zn u5)),(42000104,.row 5 1 0 (F cU u6))] []:=by
 unfold qk at h;refine zf Tryz.hU Tryz.func164 (fun _ _ _ hB=> ?_);refine z.k8.r3.b5.e5.i.b.g ?_;refine zS (fun y1=>⟨[(0,.ptr 42000101 0),(3,I y1.1),(11,.it 1011)],[(42000101,.box 104 [S u1,.sl 42000102 0 u4.length,.sl 42000103 0 u5.length,.nptr u2 42000101 3,.sl 42000104 0 u6.length,B u3]),(42000102,.row 48 8 0 (F zi u4)),(42000103,.row 194 2 0 (F zn u5)),(42000104,.row 5 1 0 (F cU u6)),(1011,.siter ⟨u1.toArray⟩ y1.2)],[]⟩) (fun q3=>(.exit 0,⟨[(0,.ptr 42000101 0),(3,I q3)],[(42000101,.box 104 [S u1,.sl 42000102 0 u4.length,.sl 42000103 0 u5.length,.nptr u2 42000101 3,.sl 42000104 0 u6.length,B u3]),(42000102,.row 48 8 0 (F zi u4)),(42000103,.row 194 2 0 (F zn u5)),(42000104,.row 5 1 0 (F cU u6))],[]⟩)) [(42000101,42000101),(42000102,42000102),(42000103,42000103),(42000104,42000104),(1011,1011)] hB h (fun y1 t h=> ?_) (fun q3 h=> ?_)
 ·unfold zE at h;refine z.b.g ?_;refine l_next h (fun _ h=> ?_) (fun _ h=> ?_)
  ·refine z.B.O.w.m3.b.Q.D.d4.a7.d.j2.g ?_;refine zb h (fun _ h=> ?_) (fun _ h=> ?_)
   ·refine z.h.g ?_;refine zl h (fun _=>name_Stands_ok) (fun v2 _ h=> ?_);refine z.l8.R.g ?_;refine zo h (fun _ h=> ?_) (fun _ h=> ?_)
    ·refine z.p4.s.g ?_;exact zq [(42000101,42000101),(42000102,42000102),(42000103,42000103),(42000104,42000104)] hB h
    refine z.c3.i8.Y.q3.N.D.g ?_;exact zt [(42000101,42000101),(42000102,42000102),(42000103,42000103),(42000104,42000104),(1011,1011)] hB h
   refine z.c3.i8.Y.q3.N.D.b7.V.l.g ?_;exact zt [(42000101,42000101),(42000102,42000102),(42000103,42000103),(42000104,42000104),(1011,1011)] hB h
  refine z.s.b7.a7.d.j2.g ?_;exact zq [(42000101,42000101),(42000102,42000102),(42000103,42000103),(42000104,42000104)] hB h
 refine z.f6.c.E.g ?_;refine Za h (fun v4 _ h=> ?_);refine z.f6.A.g ?_;refine Za h (fun v5 _ h=> ?_);refine z.e.c.j9.g ?_;apply za [(42000101,42000101),(42000102,42000102),(42000103,42000103),(42000104,42000104)] hB h
theorem parse_reader_instruction_s1_ok {u1:Str}{u2:Bool}{u3:Bool}{u4:(List zd)}{u5:(List zp)}{u6:Str}{r:Bool×Str×Bool×(List zd)×Str}(h:qs u1 u2 u3 u4 u5 u6=some r):XSpec Tryz.prog 107 [.ptr 41000101 0] [(41000101,.box 104 [S u1,.sl 41000102 0 u4.length,.sl 41000103 0 u5.length,.nptr u2 41000101 3,.sl 41000104 0 u6.length,B u3]),(41000102,.row 48 8 0 (F zi u4)),(41000103,.row 194 2 0 (F zn u5)),(41000104,.row 5 1 0 (F cU u6))] (B r.1) [(41000101,.box 104 [S r.2.1,.sl 41000102 0 r.2.2.2.1.length,.sl 41000103 0 u5.length,.nptr r.2.2.1 41000101 3,.sl 41000151 0 r.2.2.2.2.length,B u3]),(41000102,.row 48 8 0 (F zi r.2.2.2.1)),(41000103,.row 194 2 0 (F zn u5)),(41000151,.row 5 1 0 (F cU r.2.2.2.2))] [41000102,41000104]:=by
 unfold qs at h;refine zf Tryz.hU Tryz.func107 (fun _ _ _ hB=> ?_);refine z.b4.g ?_;refine zj [(42000101,41000101),(42000102,41000102),(42000103,41000103),(42000104,41000104)] [41000101,41000102,41000103,41000104] h (fun _=>ze) (fun v1 _ h=> ?_);refine z.C.g ?_;refine zj [(26000101,41000101),(26000102,41000102),(26000103,41000103),(26000104,41000104)] [41000101,41000102,41000103,41000104] h (fun _=>zL) (fun v2 _ h=> ?_);refine z.C.g ?_;refine zj [(30000101,41000101),(30000102,41000102),(30000103,41000103),(30000104,41000104)] [41000101,41000102,41000103,41000104] h (fun _=>Zs) (fun v3 _ h=> ?_);refine z.h8.O.b2.g ?_;refine zb h (fun _ h=> ?_) (fun _ h=> ?_)
 ·refine z.Z.f4.i1.g ?_;apply za [(41000101,41000101),(41000102,41000102),(41000103,41000103),(41000104,41000151)] hB h
 refine z.c4.i5.h.g ?_;refine zb h (fun _ h=> ?_) (fun _ h=> ?_)
 ·refine z.V.i2.f5.h.g ?_;refine zo h (fun _ h=> ?_) (fun _ h=> ?_)
  ·refine z.Z.g ?_;apply za [(41000101,41000101),(41000102,41000102),(41000103,41000103),(41000104,41000151)] hB h
  refine z.k4.a.j0.g ?_;refine zj [(33000101,41000101),(33000102,41000102),(33000103,41000103),(33000104,41000104),(33000151,103051)] [41000101,41000102,41000103,41000104] h (fun _=>QH) (fun v4 _ h=> ?_);refine z.U.d.g ?_;apply za [(41000101,41000101),(41000102,41000102),(41000103,41000103),(103051,41000151)] hB h
 refine z.k4.a.j0.b7.V.i3.k.g ?_;refine zj [(33000101,41000101),(33000102,41000102),(33000103,41000103),(33000104,41000104),(33000151,103051)] [41000101,41000102,41000103,41000104] h (fun _=>QH) (fun v5 _ h=> ?_);refine z.U.d.g ?_;apply za [(41000101,41000101),(41000102,41000102),(41000103,41000103),(103051,41000151)] hB h
end Go.Proofs.YtojbjdcflgeibaaGreatDoor
