/- WALKS, printed by aw.py: that the program's functions compute the plain ones. Conditions: none. -/
import Derived.Test.YtojbjdcflgeibaaGreatDoorQWalk2
set_option linter.unusedVariables false
set_option linter.unusedSimpArgs false
set_option maxRecDepth 20000
set_option maxHeartbeats 4000000
namespace Go.Proofs.YtojbjdcflgeibaaGreatDoor
open Go Go.Abs W G
theorem doc_formed_ok {l:(List ze)}{n:Int}{last:Int}{r:Bool}(h:zaq l n last=some r):XSpec Tryz.prog 173 [.vs l.length (F zl l),I n,I last] [] (B r) [] []:=by
 unfold zaq at h;refine zd Tryz.hU Tryz.func173 (fun _ _ _ hB=> ?_);refine z.p.c.g ?_;refine QH h (fun v1 _ h=> ?_);refine z.j.b7.c.l7.h5.H.f4.f3.d5.g ?_;refine zn h (fun _ h=> ?_) (fun _ h=> ?_)
 ·refine z.a.W.h5.g ?_;refine zc h (fun _ h=> ?_) (fun _ h=> ?_)
  ·refine z.J.g ?_;refine zm h (fun _=>doc_declared_ok) (fun v2 _ h=> ?_);refine z.b3.g ?_;refine zc h (fun _ h=> ?_) (fun _ h=> ?_)
   ·refine z.f.r.g ?_;refine zm h (fun _=>doc_named_ok) (fun v3 _ h=> ?_);refine l_to [] ⟨[(25,B true),(28,B v3)],[],[]⟩ hB ?_;refine z.F.c7.g ?_;apply zb [] hB h
   refine z.F.l4.o.g ?_;apply zb [] hB h
  refine z.F.l4.o.j8.g ?_;apply zb [] hB h
 refine z.j.b7.c.g ?_;refine zn h (fun _ h=> ?_) (fun _ h=> ?_)
 ·refine z.d5.c.g ?_;refine zm h (fun _=>doc_bare_ok) (fun v4 _ h=> ?_);refine l_move ?_;refine zc h (fun _ h=> ?_) (fun _ h=> ?_)
  ·refine z.b3.h6.g ?_;refine zc h (fun _ h=> ?_) (fun _ h=> ?_)
   ·refine z.b3.j0.J.g ?_;refine zc h (fun _ h=> ?_) (fun _ h=> ?_)
    ·refine z.J.g ?_;refine zm h (fun _=>Jm) (fun v5 _ h=> ?_);refine l_to [] ⟨[(0,.vs l.length (F zl l)),(2,I last),(44,B true),(47,B v5)],[],[]⟩ hB ?_;refine z.b3.g ?_;refine zc h (fun _ h=> ?_) (fun _ h=> ?_)
     ·refine z.r.v.g ?_;refine zc h (fun _ h=> ?_) (fun _ h=> ?_)
      ·refine z.F.c7.f5.n.m.g ?_;apply zb [] hB h
      refine z.f.r.g ?_;refine QH h (fun v6 _ h=> ?_);refine z.F.c7.f8.b7.J.g ?_;apply zb [] hB h
     refine z.F.e7.i4.g ?_;apply zb [] hB h
    refine z.F.e7.i4.j8.g ?_;apply zb [] hB h
   refine z.F.e7.i4.j8.j8.g ?_;apply zb [] hB h
  refine z.F.e7.i4.j8.j8.j8.g ?_;apply zb [] hB h
 refine z.j.b7.c.g ?_;refine zn h (fun _ h=> ?_) (fun _ h=> ?_)
 ·refine z.d5.c.g ?_;refine zm h (fun _=>doc_bare_ok) (fun v7 _ h=> ?_);refine l_move ?_;refine zc h (fun _ h=> ?_) (fun _ h=> ?_)
  ·refine z.b3.h6.g ?_;refine zc h (fun _ h=> ?_) (fun _ h=> ?_)
   ·refine z.J.g ?_;refine zm h (fun _=>Jm) (fun v8 _ h=> ?_);refine l_to [(1007,1007)] ⟨[(7,.ptr 1007 0),(70,B true),(73,B v8)],[(1007,.box 48 [I v1.Kind,I v1.Parent,S v1.Prefix,S v1.Local,S v1.URI,S v1.Text,.vs v1.Decls.length (F zk v1.Decls),.vs v1.Attrs.length (F qu v1.Attrs)])],[]⟩ hB ?_;refine z.b3.g ?_;refine zc h (fun _ h=> ?_) (fun _ h=> ?_)
    ·refine z.J.g ?_;refine zm h (fun _=>ZK) (fun v9 _ h=> ?_);refine z.b3.Z.g ?_;refine zc h (fun _ h=> ?_) (fun _ h=> ?_)
     ·refine z.J.g ?_;refine zm h (fun _=>strings_HasSuffix_ok) (fun v10 _ h=> ?_);refine l_to [] ⟨[(81,B true),(84,B v10)],[],[]⟩ hB ?_;refine z.F.c7.Z.g ?_;apply zb [] hB h
     refine z.F.l4.m.g ?_;apply zb [] hB h
    refine z.F.l4.m.q.m.g ?_;apply zb [] hB h
   refine z.F.l4.m.q.m.j8.g ?_;apply zb [] hB h
  refine z.F.l4.m.q.m.j8.j8.g ?_;apply zb [] hB h
 refine z.j.b7.c.g ?_;refine zn h (fun _ h=> ?_) (fun _ h=> ?_)
 ·refine k_seq ?_;refine qW (fun q13=>(.normal,⟨[(7,.ptr 1007 0),(8,B q13)],[(1007,.box 48 [I v1.Kind,I v1.Parent,S v1.Prefix,S v1.Local,S v1.URI,S v1.Text,.vs v1.Decls.length (F zk v1.Decls),.vs v1.Attrs.length (F qu v1.Attrs)])],[]⟩)) h (fun t h=> ?_) (fun q13 h=> ?_)
  ·refine z.a.j0.a2.o0.g ?_;refine zc h (fun _ h=> ?_) (fun _ h=> ?_)
   ·refine z.J.g ?_;refine Qz h (fun v11 _ h=> ?_);refine l_on ?_;refine zm h (fun _=>zaf) (fun v12 _ h=> ?_);refine z.E.c7.g ?_;exact zp [(1007,1007)] hB h
   refine z.E.l4.m.g ?_;exact zp [(1007,1007)] hB h
  refine z.d5.c.d1.g ?_;refine zm h (fun _=>doc_bare_ok) (fun v14 _ h=> ?_);refine l_move ?_;refine zc h (fun _ h=> ?_) (fun _ h=> ?_)
  ·refine z.J.g ?_;refine zm h (fun _=>ZU) (fun v15 _ h=> ?_);refine l_to [(1007,1007)] ⟨[(7,.ptr 1007 0),(8,B q13),(100,B true),(103,B v15)],[(1007,.box 48 [I v1.Kind,I v1.Parent,S v1.Prefix,S v1.Local,S v1.URI,S v1.Text,.vs v1.Decls.length (F zk v1.Decls),.vs v1.Attrs.length (F qu v1.Attrs)])],[]⟩ hB ?_;refine z.b3.g ?_;refine zc h (fun _ h=> ?_) (fun _ h=> ?_)
   ·refine z.J.g ?_;refine zm h (fun _=>doc_target_ok) (fun v16 _ h=> ?_);refine z.b3.Z.g ?_;refine zc h (fun _ h=> ?_) (fun _ h=> ?_)
    ·refine z.J.g ?_;refine zm h (fun _=>Jm) (fun v17 _ h=> ?_);refine l_to [(1007,1007)] ⟨[(7,.ptr 1007 0),(8,B q13),(111,B true),(114,B v17)],[(1007,.box 48 [I v1.Kind,I v1.Parent,S v1.Prefix,S v1.Local,S v1.URI,S v1.Text,.vs v1.Decls.length (F zk v1.Decls),.vs v1.Attrs.length (F qu v1.Attrs)])],[]⟩ hB ?_;refine z.b3.g ?_;refine zc h (fun _ h=> ?_) (fun _ h=> ?_)
     ·refine z.J.g ?_;refine zm h (fun _=>ZK) (fun v18 _ h=> ?_);refine z.b3.Z.g ?_;refine zc h (fun _ h=> ?_) (fun _ h=> ?_)
      ·refine z.F.c7.j9.f.g ?_;apply zb [] hB h
      refine z.F.e7.g ?_;apply zb [] hB h
     refine z.F.e7.q.m.g ?_;apply zb [] hB h
    refine z.F.e7.q.m.j8.g ?_;apply zb [] hB h
   refine z.F.e7.q.m.j8.q.m.g ?_;apply zb [] hB h
  refine z.F.e7.q.m.j8.q.m.j8.g ?_;apply zb [] hB h
 refine z.b2.h1.Y.g ?_;apply zb [] hB h
theorem doc_under_ok {x:ze}{r:Bool}(h:doc_under x=some r):XSpec Tryz.prog 174 [.agg (zl x)] [] (B r) [] []:=by
 unfold doc_under at h;refine zd Tryz.hU Tryz.func174 (fun _ _ _ hB=> ?_);refine z.w.h5.j.l3.c.g ?_;refine zc h (fun _ h=> ?_) (fun _ h=> ?_)
 ·refine z.b9.o.g ?_;apply zb [] hB h
 refine z.c3.b7.J.g ?_;apply zb [] hB h
theorem doc_check_ok {l:(List ze)}{r:Int×Bool}(h:J6 l=some r):XSpec Tryz.prog 111 [.vs l.length (F zl l)] [] (.tup [I r.1,B r.2]) [] []:=by
 unfold J6 at h;refine zd Tryz.hU Tryz.func111 (fun _ _ _ hB=> ?_);refine z.f2.t.g ?_;refine qW (fun q7=>(.normal,⟨[(0,.vs l.length (F zl l)),(45,B q7)],[],[]⟩)) h (fun t h=> ?_) (fun q7 h=> ?_)
 ·refine z.w.N.h.g ?_;refine zc h (fun _ h=> ?_) (fun _ h=> ?_)
  ·refine z.O.c5.R.c5.R.c5.R.c5.R.c5.m.g ?_;exact zp [] hB h
  refine z.f.g ?_;refine QH h (fun v1 _ h=> ?_);refine z.q.b7.J.g ?_;refine zc h (fun _ h=> ?_) (fun _ h=> ?_)
  ·refine z.O.c5.R.c5.R.c5.R.c5.m.g ?_;exact zp [] hB h
  refine z.f.g ?_;refine QH h (fun v2 _ h=> ?_);refine z.q.b7.J.g ?_;refine zc h (fun _ h=> ?_) (fun _ h=> ?_)
  ·refine z.O.c5.R.c5.R.c5.m.g ?_;exact zp [] hB h
  refine z.f.g ?_;refine QH h (fun v3 _ h=> ?_);refine z.b5.d5.b5.g ?_;refine zm h (fun _=>doc_bare_ok) (fun v4 _ h=> ?_);refine z.q.Z.g ?_;refine zc h (fun _ h=> ?_) (fun _ h=> ?_)
  ·refine z.O.c5.R.c5.m.g ?_;exact zp [] hB h
  refine z.f.g ?_;refine QH h (fun v5 _ h=> ?_);refine z.q.j0.J.g ?_;refine zc h (fun _ h=> ?_) (fun _ h=> ?_)
  ·refine z.O.c5.m.g ?_;exact zp [] hB h
  refine z.f.g ?_;refine QH h (fun v6 _ h=> ?_);refine z.b6.j0.J.g ?_;exact zp [] hB h
 refine f_t ?_;refine zn h (fun _ h=> ?_) (fun _ h=> ?_)
 ·refine z.Q.g ?_;apply zb [] hB h
 refine z.N.y.g ?_;refine l_make (e:=cI) (z:=0) h (fun v8 ev8 h=> ?_);refine z.e6.G.g ?_;refine zH (fun y9=>⟨[(0,.vs l.length (F zl l)),(4,.sl 1048 0 y9.2.length),(50,I (v8.length:Int)),(51,I y9.1)],[(1048,.row 3 1 0 (F cI y9.2))],[]⟩) (fun q12=>(.exit 0,⟨[(0,.vs l.length (F zl l)),(4,.sl 1048 0 q12.length)],[(1048,.row 3 1 0 (F cI q12))],[]⟩)) [(1048,1048)] hB h (fun y9 t h=> ?_) (fun q12 h=> ?_)
 ·unfold QN at h;refine z.b8.g ?_;refine zn h (fun _ h=> ?_) (fun _ h=> ?_)
  ·refine z.C.j.k7.g ?_;refine Jg h (fun v10 ev10 h=> ?_);refine l_put0 ev10 h (fun v11 ev11 h=> ?_);refine z.e1.d4.g ?_;refine qQ 4 v11.length ?_;exact zu [(1048,1048)] hB h
  refine z.k.g ?_;exact zr [(1048,1048)] hB h
 refine z.j4.c.k3.P.g ?_;refine zH (fun y13=>⟨[(0,.vs l.length (F zl l)),(4,.sl 1048 0 y13.2.2.length),(6,I y13.1),(7,I y13.2.1)],[(1048,.row 3 1 0 (F cI y13.2.2))],[]⟩) (Sum.elim (fun q32=>(.ret,⟨[(2,I 0),(3,B false)],[],[]⟩)) (fun q33=>(.exit 2,⟨[(6,I q33)],[],[]⟩))) [(1048,1048)] hB h (fun y13 t h=> ?_) (fun q h=> ?_)
 ·unfold zE at h;refine z.u.N.m2.g ?_;refine zn h (fun _ h=> ?_) (fun _ h=> ?_)
  ·refine z.H.H.a4.g ?_;refine qW (fun q20=>(.normal,⟨[(0,.vs l.length (F zl l)),(4,.sl 1048 0 y13.2.2.length),(6,I y13.1),(7,I y13.2.1),(89,B q20)],[(1048,.row 3 1 0 (F cI y13.2.2))],[]⟩)) h (fun t h=> ?_) (fun q20 h=> ?_)
   ·refine z.C.g ?_;refine zm h (fun _=>doc_stands_ok) (fun v14 _ h=> ?_);refine z.h0.g ?_;refine zc h (fun _ h=> ?_) (fun _ h=> ?_)
    ·refine z.O.n.f1.i4.g ?_;exact zp [(1048,1048)] hB h
    refine z.f.r.r.r.r.g ?_;refine QH h (fun v15 _ h=> ?_);refine z.J.g ?_;refine Jg h (fun v16 ev16 h=> ?_);refine l_on ?_;refine Jc ev16 ?_;refine l_on ?_;refine zm h (fun _=>doc_formed_ok) (fun v17 _ h=> ?_);refine z.q.Z.g ?_;refine zc h (fun _ h=> ?_) (fun _ h=> ?_)
    ·refine z.O.n.m.g ?_;exact zp [(1048,1048)] hB h
    refine z.f.r.g ?_;refine QH h (fun v18 _ h=> ?_);refine z.b5.d5.b5.g ?_;refine zm h (fun _=>doc_under_ok) (fun v19 _ h=> ?_);refine z.b6.Z.g ?_;exact zp [(1048,1048)] hB h
   refine f_t ?_;refine zn h (fun _ h=> ?_) (fun _ h=> ?_)
   ·refine z.a1.Q.g ?_;exact zr [] hB h
   refine z.i.d8.g ?_;refine QH h (fun v21 _ h=> ?_);refine z.w.a2.g ?_;refine zc h (fun _ h=> ?_) (fun _ h=> ?_)
   ·refine z.f.r.g ?_;refine QH h (fun v22 _ h=> ?_);refine z.i2.b7.J.g ?_;refine zn h (fun _ h=> ?_) (fun _ h=> ?_)
    ·refine z.u.T.g ?_;refine zn h (fun _ h=> ?_) (fun _ h=> ?_)
     ·refine z.a1.n2.Q.g ?_;exact zr [] hB h
     refine z.a.C.j.h.I.g ?_;refine QH h (fun v23 _ h=> ?_);refine z.a.a2.g ?_;refine Jg h (fun v24 ev24 h=> ?_);refine l_put0 ev24 h (fun v25 ev25 h=> ?_);refine z.c2.e4.d4.g ?_;refine qQ 4 v25.length ?_;exact zu [(1048,1048)] hB h
    refine z.a.C.I.g ?_;refine QH h (fun v26 _ h=> ?_);refine z.a.a2.g ?_;refine Jg h (fun v27 ev27 h=> ?_);refine l_put0 ev27 h (fun v28 ev28 h=> ?_);refine z.c2.e4.d4.g ?_;refine qQ 4 v28.length ?_;exact zu [(1048,1048)] hB h
   refine z.a.C.I.h8.n.m.g ?_;refine QH h (fun v29 _ h=> ?_);refine z.a.a2.g ?_;refine Jg h (fun v30 ev30 h=> ?_);refine l_put0 ev30 h (fun v31 ev31 h=> ?_);refine z.c2.e4.d4.g ?_;refine qQ 4 v31.length ?_;exact zu [(1048,1048)] hB h
  refine z.k.g ?_;exact zr [] hB h
 rcases q with q32|q33
 ·dsimp only [Sum.elim] at h ⊢
  refine z.a1.g ?_;apply zb [] hB h
 dsimp only [Sum.elim] at h ⊢
 refine z.a3.b7.i.P.g ?_;apply zb [] hB h
theorem doc_within_ok {l:(List ze)}{r:Bool}(h:zas l=some r):XSpec Tryz.prog 112 [.vs l.length (F zl l)] [] (B r) [] []:=by
 unfold zas at h;refine zd Tryz.hU Tryz.func112 (fun _ _ _ hB=> ?_);refine z.u.N.e9.g ?_;refine zn h (fun _ h=> ?_) (fun _ h=> ?_)
 ·refine z.a6.g ?_;apply zb [] hB h
 refine z.N.y.g ?_;refine l_make (e:=cI) (z:=0) h (fun v1 ev1 h=> ?_);refine z.e6.G.g ?_;refine zH (fun y2=>⟨[(3,.sl 1011 0 y2.2.length),(12,.vs l.length (F zl l)),(13,I (l.length:Int)),(14,I y2.1)],[(1011,.row 3 1 0 (F cI y2.2))],[]⟩) (Sum.elim (fun q9=>(.ret,⟨[(2,B false)],[],[]⟩)) (fun q10=>(.exit 0,⟨[],[],[]⟩))) [(1011,1011)] hB h (fun y2 t h=> ?_) (fun q h=> ?_)
 ·unfold zJ at h;refine z.b8.g ?_;refine zn h (fun _ h=> ?_) (fun _ h=> ?_)
  ·refine z.k7.g ?_;refine QH h (fun v3 _ h=> ?_);refine z.u.T.f4.A.f3.d5.g ?_;refine zn h (fun _ h=> ?_) (fun _ h=> ?_)
   ·refine z.a2.a.C.g ?_;refine Jg h (fun v4 ev4 h=> ?_);refine Jc ev4 ?_;refine l_addw ?_;refine Jg h (fun v5 ev5 h=> ?_);refine l_put0 ev5 h (fun v6 ev6 h=> ?_);refine z.i.e.g ?_;refine l_relen 30 v6.length ?_;refine Jg h (fun v7 ev7 h=> ?_);refine Jc ev7 ?_;refine z.w.g ?_;refine zc h (fun _ h=> ?_) (fun _ h=> ?_)
    ·refine z.f6.i4.g ?_;exact zr [] hB h
    refine z.d7.c6.d6.b5.N.J.N.J.g ?_;refine zn h (fun _ h=> ?_) (fun _ h=> ?_)
    ·refine z.j6.g ?_;exact zr [] hB h
    refine z.e3.g ?_;refine qQ 3 v6.length ?_;exact zu [(1011,1011)] hB h
   refine z.f0.g ?_;refine Jg h (fun v8 ev8 h=> ?_);refine Jc ev8 ?_;refine z.w.g ?_;refine zc h (fun _ h=> ?_) (fun _ h=> ?_)
   ·refine z.f6.i4.g ?_;exact zr [] hB h
   refine z.d7.c6.d6.b5.N.J.N.J.g ?_;refine zn h (fun _ h=> ?_) (fun _ h=> ?_)
   ·refine z.j6.g ?_;exact zr [] hB h
   refine z.e3.g ?_;exact zu [(1011,1011)] hB h
  refine z.k.g ?_;exact zr [] hB h
 rcases q with q9|q10
 ·dsimp only [Sum.elim] at h ⊢
  refine z.a1.g ?_;apply zb [] hB h
 dsimp only [Sum.elim] at h ⊢
 refine z.b2.P.g ?_;apply zb [] hB h
theorem slices_Clone_Decl_ok {s:(List za)}{r:(List za)}(h:ZI s=some r):XSpec Tryz.prog 133 [.vs s.length (F zk s)] [] (.sl 1 0 r.length) [(1,.row 39 2 0 (F zk r))] []:=by
 unfold ZI at h;refine zd Tryz.hU Tryz.func133 (fun _ _ _ hB=> ?_);refine z.e9.g ?_;refine l_eqnil (fun bv1 hbv1=> ?_);refine z.e.g ?_;refine k_nd (fun e0=> ?_) (fun _=> ?_)
 ·have e0:=List.eq_nil_of_length_eq_zero (hbv1 e0)
  try rw [e0] at h
  change (some [])=_ at h
  refine z.a6.g ?_;refine f_nilrow (te:=39) (t:=2) 3002 2 ?_;apply zb [(3002,1)] hB h
 refine z.a.r6.c.I.g ?_;refine l_appf h (fun v2 _ h=> ?_);refine z.l.g ?_;apply zb [(1005,1)] hB h
theorem slices_Clone_Attr_ok {s:(List zO)}{r:(List zO)}(h:JO s=some r):XSpec Tryz.prog 138 [.vs s.length (F qu s)] [] (.sl 1 0 r.length) [(1,.row 126 4 0 (F qu r))] []:=by
 unfold JO at h;refine zd Tryz.hU Tryz.func138 (fun _ _ _ hB=> ?_);refine z.e9.g ?_;refine l_eqnil (fun bv1 hbv1=> ?_);refine z.e.g ?_;refine k_nd (fun e0=> ?_) (fun _=> ?_)
 ·have e0:=List.eq_nil_of_length_eq_zero (hbv1 e0)
  try rw [e0] at h
  change (some [])=_ at h
  refine z.a6.g ?_;refine f_nilrow (te:=126) (t:=2) 3002 4 ?_;apply zb [(3002,1)] hB h
 refine z.a.r6.c.I.g ?_;refine l_appf h (fun v2 _ h=> ?_);refine z.l.g ?_;apply zb [(1005,1)] hB h
theorem doc_clone_ok {x:ze}{r:Int×Int×Str×Str×Str×Str×(List za)×(List zO)}(h:doc_clone x=some r):XSpec Tryz.prog 76 [.agg (zl x)] [] (.agg [I r.1,I r.2.1,S r.2.2.1,S r.2.2.2.1,S r.2.2.2.2.1,S r.2.2.2.2.2.1,.sl 1 0 r.2.2.2.2.2.2.1.length,.sl 2 0 r.2.2.2.2.2.2.2.length]) [(1,.row 39 2 0 (F zk r.2.2.2.2.2.2.1)),(2,.row 126 4 0 (F qu r.2.2.2.2.2.2.2))] []:=by
 unfold doc_clone at h;refine zd Tryz.hU Tryz.func76 (fun _ _ _ hB=> ?_);refine z.H.e.f3.l3.c.g ?_;refine ZH [7,9] (.q 0 (.q 1 (.q 3 (.q 4 (.e 2 (.q 6 (.e 5 (.e 7 (.q 8 (.e 9 .done)))))))))) hm ?_;refine z.D.n4.n4.g ?_;refine zT [(1,100501)] [] h (fun _=>slices_Clone_Decl_ok) (fun v1 _ h=> ?_);refine z.D.k0.g ?_;refine zT [(1,100801)] [] h (fun _=>slices_Clone_Attr_ok) (fun v2 _ h=> ?_);refine z.l5.f4.d5.c.j3.n7.D.k0.n7.D.g ?_;apply zb [(100501,1),(100801,2)] hB h
theorem doc_Of_ok {l:(List ze)}{r:(Option Zb)×Int}(h:doc_Of l=some r):XSpec Tryz.prog 62 [.vs l.length (F zl l)] [] (.tup [oP ZN r.1,I r.2]) [] []:=by
 unfold doc_Of at h;refine zd Tryz.hU Tryz.func62 (fun _ _ _ hB=> ?_);refine z.x.t.g ?_;refine zm h (fun _=>doc_check_ok) (fun v1 _ h=> ?_);refine z.j.j9.b.c9.b4.M.g ?_;refine zn h (fun _ h=> ?_) (fun _ h=> ?_)
 ·refine z.F.t.g ?_;apply k_retN [] hB h
 refine z.b.g ?_;refine zm h (fun _=>doc_within_ok) (fun v2 _ h=> ?_);refine z.j.j9.g ?_;refine zn h (fun _ h=> ?_) (fun _ h=> ?_)
 ·refine z.F.t.g ?_;apply k_retN [] hB h
 refine z.N.b.h1.Y.g ?_;refine l_make (e:=cI) (z:=0) h (fun v3 ev3 h=> ?_);refine z.e6.G.l3.l0.a.g ?_;refine k_nilcell (te:=48) (b1:=1028) (j:=0) 13280 8 ?_;refine zH (fun y4=>⟨[(0,.vs l.length (F zl l)),(6,.ptr 1028 0),(29,.vs l.length (F zl l)),(30,I (l.length:Int)),(31,I y4.1)],[(1028,.box 111 [.sl 13280 0 y4.2.length,.sl 1025 0 v3.length,I v1.1]),(13280,.row 48 8 0 (F zl y4.2)),(1025,.row 3 1 0 (F cI v3))],[]⟩) (fun q8=>(.exit 1,⟨[(0,.vs l.length (F zl l)),(6,.ptr 1028 0)],[(1028,.box 111 [.sl 13280 0 q8.length,.sl 1025 0 v3.length,I v1.1]),(13280,.row 48 8 0 (F zl q8)),(1025,.row 3 1 0 (F cI v3))],[]⟩)) [(1028,1028),(13280,13280),(1025,1025)] hB h (fun y4 t h=> ?_) (fun q8 h=> ?_)
 ·unfold zau at h;refine z.b8.g ?_;refine zn h (fun _ h=> ?_) (fun _ h=> ?_)
  ·refine z.c.a4.g ?_;refine QH h (fun v5 _ h=> ?_);refine z.f4.f3.d5.g ?_;refine ZH [8,11] (.q 1 (.q 2 (.q 3 (.q 4 (.q 5 (.s 0 (.e 6 (.e 7 (.e 8 (.q 9 (.q 10 (.e 11 .done)))))))))))) hm ?_;refine z.D.k1.q2.d.e8.g ?_;refine zT [(1,104101),(2,104102)] [] h (fun _=>doc_clone_ok) (fun v6 _ h=> ?_);refine m_frz 104101 ?_;refine m_frz 104102 ?_;refine ge ?_;refine n_lit (e:=zl) [(ze.mk v6.1 v6.2.1 v6.2.2.1 v6.2.2.2.1 v6.2.2.2.2.1 v6.2.2.2.2.2.1 v6.2.2.2.2.2.2.1 v6.2.2.2.2.2.2.2)] ?_;refine ge ?_;refine n_appo h (fun v7 _ h=> ?_);refine z.e1.d9.n7.D.k0.l1.d.g ?_;exact zu [(1028,1028),(13280,13280),(1025,1025)] hB h
  refine z.k.g ?_;exact zr [(1028,1028),(13280,13280),(1025,1025)] hB h
 refine z.j4.S.N.T.P.g ?_;refine zH (fun y9=>⟨[(0,.vs l.length (F zl l)),(6,.ptr 1028 0),(9,I y9.1)],[(1028,.box 111 [.sl 13280 0 q8.length,.sl 1025 0 y9.2.length,I v1.1]),(13280,.row 48 8 0 (F zl q8)),(1025,.row 3 1 0 (F cI y9.2))],[]⟩) (fun q18=>(.exit 3,⟨[(6,.ptr 1028 0)],[(1028,.box 111 [.sl 13280 0 q8.length,.sl 1025 0 q18.length,I v1.1]),(13280,.row 48 8 0 (F zl q8)),(1025,.row 3 1 0 (F cI q18))],[]⟩)) [(1028,1028),(13280,13280),(1025,1025)] hB h (fun y9 t h=> ?_) (fun q18 h=> ?_)
 ·unfold zay at h;refine z.u.T.g ?_;refine zn h (fun _ h=> ?_) (fun _ h=> ?_)
  ·refine z.H.a4.g ?_;refine ZH [16] (.q 0 (.q 1 (.q 2 (.q 3 (.q 4 (.q 5 (.q 6 (.q 7 (.q 8 (.q 9 (.q 10 (.q 11 (.q 12 (.q 13 (.q 14 (.q 15 (.e 16 .done))))))))))))))))) hm ?_;refine z.K.e8.e2.e8.g ?_;refine qc h (fun v10 ev10 h=> ?_);refine gq ?_;refine n_ldr0 ev10 ?_;refine z.d.r7.d.m6.K.g ?_;refine qc h (fun v11 ev11 h=> ?_);refine ge ?_;refine JK ev11 h (fun v12 ev12 h=> ?_);refine z.i.j3.g ?_;refine QH h (fun v13 _ h=> ?_);refine z.u.x.a2.g ?_;refine zn h (fun _ h=> ?_) (fun _ h=> ?_)
   ·refine ZH [21] (.q 0 (.q 1 (.q 2 (.q 3 (.q 4 (.q 5 (.q 6 (.q 7 (.q 8 (.q 9 (.q 10 (.q 11 (.q 12 (.q 13 (.q 14 (.q 15 (.q 16 (.q 17 (.q 18 (.q 19 (.q 20 (.e 21 .done)))))))))))))))))))))) hm ?_;refine z.e2.e8.e2.e8.g ?_;refine m_relen 85 v12.length ?_;refine gq ?_;refine qc h (fun v14 ev14 h=> ?_);refine gq ?_;refine n_ldr0 ev14 ?_;refine z.e2.e8.g ?_;refine m_relen 92 v12.length ?_;refine gq ?_;refine qc h (fun v15 ev15 h=> ?_);refine gq ?_;refine n_ldr0 ev15 ?_;refine z.r7.d.g ?_;refine m_relen 80 v12.length ?_;refine gq ?_;refine qc h (fun v16 ev16 h=> ?_);refine ge ?_;refine JK ev16 h (fun v17 ev17 h=> ?_);refine z.E.S.e4.d9.g ?_;refine f_relenc 1028 1 v17.length ?_;exact zu [(1028,1028),(13280,13280),(1025,1025)] hB h
   refine z.E.S.e4.Y.g ?_;refine f_relenc 1028 1 v12.length ?_;exact zu [(1028,1028),(13280,13280),(1025,1025)] hB h
  refine z.k.g ?_;exact zr [(1028,1028),(13280,13280),(1025,1025)] hB h
 refine z.a3.i9.g ?_;refine f_frz 13280 ?_;refine f_frz 1025 ?_;refine f_frz 1028 ?_;apply zb [] hB h
theorem zU {u1:Str}{u2:Bool}{u3:Bool}{u4:(List ze)}{u5:(List zv)}{u6:Str}{r:Bool×Str}(h:zD u1 u2 u3 u4 u5 u6=some r):XSpec Tryz.prog 100 [.ptr 26000101 0] [(26000101,.box 104 [S u1,.sl 26000102 0 u4.length,.sl 26000103 0 u5.length,.nptr u2 26000101 3,.sl 26000104 0 u6.length,B u3]),(26000102,.row 48 8 0 (F zl u4)),(26000103,.row 194 2 0 (F zq u5)),(26000104,.row 5 1 0 (F cU u6))] (B r.1) [(26000101,.box 104 [S r.2,.sl 26000102 0 u4.length,.sl 26000103 0 u5.length,.nptr u2 26000101 3,.sl 26000104 0 u6.length,B u3]),(26000102,.row 48 8 0 (F zl u4)),(26000103,.row 194 2 0 (F zq u5)),(26000104,.row 5 1 0 (F cU u6))] []:=by
 unfold zD at h;refine zd Tryz.hU Tryz.func100 (fun _ _ _ hB=> ?_);refine z.c9.k3.j.c.g ?_;refine zH (fun y1=>⟨[(0,.ptr 26000101 0),(3,I y1)],[(26000101,.box 104 [S u1,.sl 26000102 0 u4.length,.sl 26000103 0 u5.length,.nptr u2 26000101 3,.sl 26000104 0 u6.length,B u3]),(26000102,.row 48 8 0 (F zl u4)),(26000103,.row 194 2 0 (F zq u5)),(26000104,.row 5 1 0 (F cU u6))],[]⟩) (fun q4=>(.exit 0,⟨[(0,.ptr 26000101 0),(3,I q4)],[(26000101,.box 104 [S u1,.sl 26000102 0 u4.length,.sl 26000103 0 u5.length,.nptr u2 26000101 3,.sl 26000104 0 u6.length,B u3]),(26000102,.row 48 8 0 (F zl u4)),(26000103,.row 194 2 0 (F zq u5)),(26000104,.row 5 1 0 (F cU u6))],[]⟩)) [(26000101,26000101),(26000102,26000102),(26000103,26000103),(26000104,26000104)] hB h (fun y1 t h=> ?_) (fun q4 h=> ?_)
 ·unfold qh at h;refine z.w.V.a9.m2.g ?_;refine zc h (fun _ h=> ?_) (fun _ h=> ?_)
  ·refine z.f.p6.b5.n3.f.g ?_;refine Qz h (fun v2 _ h=> ?_);refine l_on ?_;refine zm h (fun _=>zaf) (fun v3 _ h=> ?_);refine z.i2.g ?_;refine zn h (fun _ h=> ?_) (fun _ h=> ?_)
   ·refine z.h4.c2.h.k4.g ?_;exact zu [(26000101,26000101),(26000102,26000102),(26000103,26000103),(26000104,26000104)] hB h
   refine z.k.g ?_;exact zr [(26000101,26000101),(26000102,26000102),(26000103,26000103),(26000104,26000104)] hB h
  refine z.k.h8.o.m.g ?_;exact zr [(26000101,26000101),(26000102,26000102),(26000103,26000103),(26000104,26000104)] hB h
 refine z.i3.i.P.g ?_;refine Zr h (fun v5 _ h=> ?_);refine z.l.b7.b.k5.g ?_;apply zb [(26000101,26000101),(26000102,26000102),(26000103,26000103),(26000104,26000104)] hB h
theorem zG {u1:Str}{u2:Str}{u3:Bool}{u4:Bool}{u5:(List ze)}{u6:(List zv)}{u7:Str}{r:Bool×Str}(h:zA u1 u2 u3 u4 u5 u6 u7=some r):XSpec Tryz.prog 104 [.ptr 28000101 0,S u1] [(28000101,.box 104 [S u2,.sl 28000102 0 u5.length,.sl 28000103 0 u6.length,.nptr u3 28000101 3,.sl 28000104 0 u7.length,B u4]),(28000102,.row 48 8 0 (F zl u5)),(28000103,.row 194 2 0 (F zq u6)),(28000104,.row 5 1 0 (F cU u7))] (B r.1) [(28000101,.box 104 [S r.2,.sl 28000102 0 u5.length,.sl 28000103 0 u6.length,.nptr u3 28000101 3,.sl 28000104 0 u7.length,B u4]),(28000102,.row 48 8 0 (F zl u5)),(28000103,.row 194 2 0 (F zq u6)),(28000104,.row 5 1 0 (F cU u7))] []:=by
 unfold zA at h;refine zd Tryz.hU Tryz.func104 (fun _ _ _ hB=> ?_);refine z.i3.a8.g ?_;refine zm h (fun _=>Z1) (fun v1 _ h=> ?_);refine z.e.G.M.g ?_;refine zn h (fun _ h=> ?_) (fun _ h=> ?_)
 ·refine z.l.b.k5.C.g ?_;apply zb [(28000101,28000101),(28000102,28000102),(28000103,28000103),(28000104,28000104)] hB h
 refine z.l.y.g ?_;apply zb [(28000101,28000101),(28000102,28000102),(28000103,28000103),(28000104,28000104)] hB h
theorem ZZ {u1:Str}{u2:Str}{u3:Bool}{u4:Bool}{u5:(List ze)}{u6:(List zv)}{u7:Str}{r:Str×Bool×Str}(h:qC u1 u2 u3 u4 u5 u6 u7=some r):XSpec Tryz.prog 105 [.ptr 30000101 0,S u1] [(30000101,.box 104 [S u2,.sl 30000102 0 u5.length,.sl 30000103 0 u6.length,.nptr u3 30000101 3,.sl 30000104 0 u7.length,B u4]),(30000102,.row 48 8 0 (F zl u5)),(30000103,.row 194 2 0 (F zq u6)),(30000104,.row 5 1 0 (F cU u7))] (.tup [S r.1,B r.2.1]) [(30000101,.box 104 [S r.2.2,.sl 30000102 0 u5.length,.sl 30000103 0 u6.length,.nptr u3 30000101 3,.sl 30000104 0 u7.length,B u4]),(30000102,.row 48 8 0 (F zl u5)),(30000103,.row 194 2 0 (F zq u6)),(30000104,.row 5 1 0 (F cU u7))] []:=by
 unfold qC at h;refine zd Tryz.hU Tryz.func105 (fun _ _ _ hB=> ?_);refine z.i3.x.t.g ?_;refine zm h (fun _=>Zl) (fun v1 _ h=> ?_);refine z.e.G.A.k6.k8.g ?_;refine zn h (fun _ h=> ?_) (fun _ h=> ?_)
 ·refine z.a3.i.k5.C.g ?_;apply zb [(30000101,30000101),(30000102,30000102),(30000103,30000103),(30000104,30000104)] hB h
 refine z.a3.f0.g ?_;apply zb [(30000101,30000101),(30000102,30000102),(30000103,30000103),(30000104,30000104)] hB h
theorem QJ {u1:Str}{u2:Bool}{u3:Bool}{u4:(List ze)}{u5:(List zv)}{u6:Str}{r:Str×Bool×Str}(h:qG u1 u2 u3 u4 u5 u6=some r):XSpec Tryz.prog 159 [.ptr 29000101 0] [(29000101,.box 104 [S u1,.sl 29000102 0 u4.length,.sl 29000103 0 u5.length,.nptr u2 29000101 3,.sl 29000104 0 u6.length,B u3]),(29000102,.row 48 8 0 (F zl u4)),(29000103,.row 194 2 0 (F zq u5)),(29000104,.row 5 1 0 (F cU u6))] (.tup [S r.1,B r.2.1]) [(29000101,.box 104 [S r.2.2,.sl 29000102 0 u4.length,.sl 29000103 0 u5.length,.nptr u2 29000101 3,.sl 29000104 0 u6.length,B u3]),(29000102,.row 48 8 0 (F zl u4)),(29000103,.row 194 2 0 (F zq u5)),(29000104,.row 5 1 0 (F cU u6))] []:=by
 unfold qG at h;refine zd Tryz.hU Tryz.func159 (fun _ _ _ hB=> ?_);refine z.x.t.g ?_;refine zi [(26000101,29000101),(26000102,29000102),(26000103,29000103),(26000104,29000104)] [29000101,29000102,29000103,29000104] h (fun _=>zU) (fun v1 _ h=> ?_);refine z.T.e.g ?_;refine zi [(28000101,29000101),(28000102,29000102),(28000103,29000103),(28000104,29000104)] [29000101,29000102,29000103,29000104] h (fun _=>zG) (fun v2 _ h=> ?_);refine z.d3.g ?_;refine zn h (fun _ h=> ?_) (fun _ h=> ?_)
 ·refine z.Q.g ?_;apply zb [(29000101,29000101),(29000102,29000102),(29000103,29000103),(29000104,29000104)] hB h
 refine z.y.g ?_;refine zi [(26000101,29000101),(26000102,29000102),(26000103,29000103),(26000104,29000104)] [29000101,29000102,29000103,29000104] h (fun _=>zU) (fun v3 _ h=> ?_);refine z.H.H.e.g ?_;refine qW (fun q6=>(.normal,⟨[(0,.ptr 29000101 0),(25,B q6)],[(29000101,.box 104 [S v3.2,.sl 29000102 0 u4.length,.sl 29000103 0 u5.length,.nptr u2 29000101 3,.sl 29000104 0 u6.length,B u3]),(29000102,.row 48 8 0 (F zl u4)),(29000103,.row 194 2 0 (F zq u5)),(29000104,.row 5 1 0 (F cU u6))],[]⟩)) h (fun t h=> ?_) (fun q6 h=> ?_)
 ·refine z.a.W.a9.h.g ?_;refine zc h (fun _ h=> ?_) (fun _ h=> ?_)
  ·refine z.O.o.m.g ?_;exact zp [(29000101,29000101),(29000102,29000102),(29000103,29000103),(29000104,29000104)] hB h
  refine z.J.n3.f.g ?_;refine Zr h (fun v4 _ h=> ?_);refine l_on ?_;refine zm h (fun _=>ZK) (fun v5 _ h=> ?_);refine z.b6.Z.g ?_;exact zp [(29000101,29000101),(29000102,29000102),(29000103,29000103),(29000104,29000104)] hB h
 refine f_t ?_;refine zn h (fun _ h=> ?_) (fun _ h=> ?_)
 ·refine z.Q.g ?_;apply zb [(29000101,29000101),(29000102,29000102),(29000103,29000103),(29000104,29000104)] hB h
 refine z.a9.y.g ?_;refine Zr h (fun v7 _ h=> ?_);refine z.a9.p.g ?_;refine Zr h (fun v8 _ h=> ?_);refine z.i.k5.g ?_;refine zi [(30000101,29000101),(30000102,29000102),(30000103,29000103),(30000104,29000104)] [29000101,29000102,29000103,29000104] h (fun _=>ZZ) (fun v9 _ h=> ?_);refine z.a3.n1.g ?_;apply zb [(29000101,29000101),(29000102,29000102),(29000103,29000103),(29000104,29000104)] hB h
theorem zaz {u1:Str}{u2:Str}{u3:Bool}{u4:Bool}{u5:(List ze)}{u6:(List zv)}{u7:Str}{u8:(List Str)}{r:Bool×Str}(h:Zx u1 u2 u3 u4 u5 u6 u7 u8=some r):XSpec Tryz.prog 102 [.ptr 27000101 0,S u1,.sl 27000105 0 u8.length] [(27000101,.box 104 [S u2,.sl 27000102 0 u5.length,.sl 27000103 0 u6.length,.nptr u3 27000101 3,.sl 27000104 0 u7.length,B u4]),(27000102,.row 48 8 0 (F zl u5)),(27000103,.row 194 2 0 (F zq u6)),(27000104,.row 5 1 0 (F cU u7)),(27000105,.row 9 1 0 (F cS u8))] (B r.1) [(27000101,.box 104 [S r.2,.sl 27000102 0 u5.length,.sl 27000103 0 u6.length,.nptr u3 27000101 3,.sl 27000104 0 u7.length,B u4]),(27000102,.row 48 8 0 (F zl u5)),(27000103,.row 194 2 0 (F zq u6)),(27000104,.row 5 1 0 (F cU u7)),(27000105,.row 9 1 0 (F cS u8))] []:=by
 unfold Zx at h;refine zd Tryz.hU Tryz.func102 (fun _ _ _ hB=> ?_);refine z.f2.a9.a8.g ?_;refine qW (fun q3=>(.normal,⟨[(0,.ptr 27000101 0),(2,.sl 27000105 0 u8.length),(7,S u2),(24,B q3.1)],[(27000101,.box 104 [S q3.2,.sl 27000102 0 u5.length,.sl 27000103 0 u6.length,.nptr u3 27000101 3,.sl 27000104 0 u7.length,B u4]),(27000102,.row 48 8 0 (F zl u5)),(27000103,.row 194 2 0 (F zq u6)),(27000104,.row 5 1 0 (F cU u7)),(27000105,.row 9 1 0 (F cS u8))],[]⟩)) h (fun t h=> ?_) (fun q3 h=> ?_)
 ·refine z.h.g ?_;refine zi [(26000101,27000101),(26000102,27000102),(26000103,27000103),(26000104,27000104)] [27000101,27000102,27000103,27000104] h (fun _=>zU) (fun v1 _ h=> ?_);refine z.h0.g ?_;refine zc h (fun _ h=> ?_) (fun _ h=> ?_)
  ·refine z.O.m.g ?_;exact zp [(27000101,27000101),(27000102,27000102),(27000103,27000103),(27000104,27000104),(27000105,27000105)] hB h
  refine z.f.r.g ?_;refine zi [(28000101,27000101),(28000102,27000102),(28000103,27000103),(28000104,27000104)] [27000101,27000102,27000103,27000104] h (fun _=>zG) (fun v2 _ h=> ?_);refine z.b6.Z.g ?_;exact zp [(27000101,27000101),(27000102,27000102),(27000103,27000103),(27000104,27000104),(27000105,27000105)] hB h
 refine f_t ?_;refine zn h (fun _ h=> ?_) (fun _ h=> ?_)
 ·refine z.a6.k5.i.g ?_;apply zb [(27000101,27000101),(27000102,27000102),(27000103,27000103),(27000104,27000104),(27000105,27000105)] hB h
 refine z.y.g ?_;refine zi [(29000101,27000101),(29000102,27000102),(29000103,27000103),(29000104,27000104)] [27000101,27000102,27000103,27000104] h (fun _=>QJ) (fun v4 _ h=> ?_);refine z.e6.G.M.g ?_;refine zH (fun y5=>⟨[(8,S v4.1),(9,B v4.2.1),(34,.sl 27000105 0 u8.length),(35,I (u8.length:Int)),(36,I y5)],[(27000101,.box 104 [S v4.2.2,.sl 27000102 0 u5.length,.sl 27000103 0 u6.length,.nptr u3 27000101 3,.sl 27000104 0 u7.length,B u4]),(27000102,.row 48 8 0 (F zl u5)),(27000103,.row 194 2 0 (F zq u6)),(27000104,.row 5 1 0 (F cU u7)),(27000105,.row 9 1 0 (F cS u8))],[]⟩) (Sum.elim (fun q7=>(.ret,⟨[(6,B true)],[(27000101,.box 104 [S v4.2.2,.sl 27000102 0 u5.length,.sl 27000103 0 u6.length,.nptr u3 27000101 3,.sl 27000104 0 u7.length,B u4]),(27000102,.row 48 8 0 (F zl u5)),(27000103,.row 194 2 0 (F zq u6)),(27000104,.row 5 1 0 (F cU u7)),(27000105,.row 9 1 0 (F cS u8))],[]⟩)) (fun q8=>(.exit 0,⟨[],[(27000101,.box 104 [S v4.2.2,.sl 27000102 0 u5.length,.sl 27000103 0 u6.length,.nptr u3 27000101 3,.sl 27000104 0 u7.length,B u4]),(27000102,.row 48 8 0 (F zl u5)),(27000103,.row 194 2 0 (F zq u6)),(27000104,.row 5 1 0 (F cU u7)),(27000105,.row 9 1 0 (F cS u8))],[]⟩))) [(27000101,27000101),(27000102,27000102),(27000103,27000103),(27000104,27000104),(27000105,27000105)] hB h (fun y5 t h=> ?_) (fun q h=> ?_)
 ·unfold qa at h;refine z.b8.g ?_;refine zn h (fun _ h=> ?_) (fun _ h=> ?_)
  ·refine z.c.a4.g ?_;refine Jg h (fun v6 ev6 h=> ?_);refine Jc ev6 ?_;refine z.p.g ?_;refine zc h (fun _ h=> ?_) (fun _ h=> ?_)
   ·refine z.i2.W.f.r.g ?_;refine zn h (fun _ h=> ?_) (fun _ h=> ?_)
    ·refine z.j6.g ?_;exact zr [(27000101,27000101),(27000102,27000102),(27000103,27000103),(27000104,27000104),(27000105,27000105)] hB h
    refine z.e3.g ?_;exact zu [(27000101,27000101),(27000102,27000102),(27000103,27000103),(27000104,27000104),(27000105,27000105)] hB h
   refine z.e3.h8.o.g ?_;exact zu [(27000101,27000101),(27000102,27000102),(27000103,27000103),(27000104,27000104),(27000105,27000105)] hB h
  refine z.k.g ?_;exact zr [(27000101,27000101),(27000102,27000102),(27000103,27000103),(27000104,27000104),(27000105,27000105)] hB h
 rcases q with q7|q8
 ·dsimp only [Sum.elim] at h ⊢
  refine z.a1.g ?_;apply zb [(27000101,27000101),(27000102,27000102),(27000103,27000103),(27000104,27000104),(27000105,27000105)] hB h
 dsimp only [Sum.elim] at h ⊢
 refine z.b2.P.g ?_;apply zb [(27000101,27000101),(27000102,27000102),(27000103,27000103),(27000104,27000104),(27000105,27000105)] hB h
theorem parse_reader_encoding_s1_ok {u1:Str}{u2:Bool}{u3:Bool}{u4:(List ze)}{u5:(List zv)}{u6:Str}{r:Bool×Str}(h:Zk u1 u2 u3 u4 u5 u6=some r):XSpec Tryz.prog 103 [.ptr 31000101 0] [(31000101,.box 104 [S u1,.sl 31000102 0 u4.length,.sl 31000103 0 u5.length,.nptr u2 31000101 3,.sl 31000104 0 u6.length,B u3]),(31000102,.row 48 8 0 (F zl u4)),(31000103,.row 194 2 0 (F zq u5)),(31000104,.row 5 1 0 (F cU u6))] (B r.1) [(31000101,.box 104 [S r.2,.sl 31000102 0 u4.length,.sl 31000103 0 u5.length,.nptr u2 31000101 3,.sl 31000104 0 u6.length,B u3]),(31000102,.row 48 8 0 (F zl u4)),(31000103,.row 194 2 0 (F zq u5)),(31000104,.row 5 1 0 (F cU u6))] []:=by
 unfold Zk at h;refine zd Tryz.hU Tryz.func103 (fun _ _ _ hB=> ?_);refine z.f2.a9.a8.g ?_;refine qW (fun q3=>(.normal,⟨[(0,.ptr 31000101 0),(3,S u1),(17,B q3.1)],[(31000101,.box 104 [S q3.2,.sl 31000102 0 u4.length,.sl 31000103 0 u5.length,.nptr u2 31000101 3,.sl 31000104 0 u6.length,B u3]),(31000102,.row 48 8 0 (F zl u4)),(31000103,.row 194 2 0 (F zq u5)),(31000104,.row 5 1 0 (F cU u6))],[]⟩)) h (fun t h=> ?_) (fun q3 h=> ?_)
 ·refine z.h.g ?_;refine zi [(26000101,31000101),(26000102,31000102),(26000103,31000103),(26000104,31000104)] [31000101,31000102,31000103,31000104] h (fun _=>zU) (fun v1 _ h=> ?_);refine z.h0.g ?_;refine zc h (fun _ h=> ?_) (fun _ h=> ?_)
  ·refine z.O.o.g ?_;exact zp [(31000101,31000101),(31000102,31000102),(31000103,31000103),(31000104,31000104)] hB h
  refine z.f.g ?_;refine zi [(28000101,31000101),(28000102,31000102),(28000103,31000103),(28000104,31000104)] [31000101,31000102,31000103,31000104] h (fun _=>zG) (fun v2 _ h=> ?_);refine z.b6.Z.g ?_;exact zp [(31000101,31000101),(31000102,31000102),(31000103,31000103),(31000104,31000104)] hB h
 refine f_t ?_;refine zn h (fun _ h=> ?_) (fun _ h=> ?_)
 ·refine z.a6.k5.i.g ?_;apply zb [(31000101,31000101),(31000102,31000102),(31000103,31000103),(31000104,31000104)] hB h
 refine z.y.g ?_;refine zi [(29000101,31000101),(29000102,31000102),(29000103,31000103),(29000104,31000104)] [31000101,31000102,31000103,31000104] h (fun _=>QJ) (fun v4 _ h=> ?_);refine z.p.M.g ?_;refine zc h (fun _ h=> ?_) (fun _ h=> ?_)
 ·refine z.f.g ?_;refine zm h (fun _=>parse_fold_ok) (fun v5 _ h=> ?_);refine z.b9.W.b5.g ?_;apply zb [(31000101,31000101),(31000102,31000102),(31000103,31000103),(31000104,31000104)] hB h
 refine z.c3.o.g ?_;apply zb [(31000101,31000101),(31000102,31000102),(31000103,31000103),(31000104,31000104)] hB h
theorem parse_reader_declaration_s1_ok {u1:Str}{u2:Bool}{u3:Bool}{u4:(List ze)}{u5:(List zv)}{u6:Str}{r:Bool×Str}(h:qM u1 u2 u3 u4 u5 u6=some r):XSpec Tryz.prog 60 [.ptr 25000101 0] [(25000101,.box 104 [S u1,.sl 25000102 0 u4.length,.sl 25000103 0 u5.length,.nptr u2 25000101 3,.sl 25000104 0 u6.length,B u3]),(25000102,.row 48 8 0 (F zl u4)),(25000103,.row 194 2 0 (F zq u5)),(25000104,.row 5 1 0 (F cU u6))] (B r.1) [(25000101,.box 104 [S r.2,.sl 25000102 0 u4.length,.sl 25000103 0 u5.length,.nptr u2 25000101 3,.sl 25000104 0 u6.length,B u3]),(25000102,.row 48 8 0 (F zl u4)),(25000103,.row 194 2 0 (F zq u5)),(25000104,.row 5 1 0 (F cU u6))] []:=by
 unfold qM at h;refine zd Tryz.hU Tryz.func60 (fun _ _ _ hB=> ?_);refine z.f2.c.g ?_;refine qW (fun q4=>(.normal,⟨[(0,.ptr 25000101 0),(26,B q4)],[(25000101,.box 104 [S u1,.sl 25000102 0 u4.length,.sl 25000103 0 u5.length,.nptr u2 25000101 3,.sl 25000104 0 u6.length,B u3]),(25000102,.row 48 8 0 (F zl u4)),(25000103,.row 194 2 0 (F zq u5)),(25000104,.row 5 1 0 (F cU u6))],[]⟩)) h (fun t h=> ?_) (fun q4 h=> ?_)
 ·refine z.w.V.a9.h.g ?_;refine zc h (fun _ h=> ?_) (fun _ h=> ?_)
  ·refine z.O.o.R.n.m.g ?_;exact zp [(25000101,25000101),(25000102,25000102),(25000103,25000103),(25000104,25000104)] hB h
  refine z.J.n3.f.g ?_;refine Zr h (fun v1 _ h=> ?_);refine z.q.j0.b5.g ?_;refine zc h (fun _ h=> ?_) (fun _ h=> ?_)
  ·refine z.O.o.m.g ?_;exact zp [(25000101,25000101),(25000102,25000102),(25000103,25000103),(25000104,25000104)] hB h
  refine z.J.n3.f.g ?_;refine Qz h (fun v2 _ h=> ?_);refine l_on ?_;refine zm h (fun _=>zaf) (fun v3 _ h=> ?_);refine z.b6.Z.g ?_;exact zp [(25000101,25000101),(25000102,25000102),(25000103,25000103),(25000104,25000104)] hB h
 refine f_t ?_;refine zn h (fun _ h=> ?_) (fun _ h=> ?_)
 ·refine z.a6.g ?_;apply zb [(25000101,25000101),(25000102,25000102),(25000103,25000103),(25000104,25000104)] hB h
 refine z.a9.f0.g ?_;refine Zr h (fun v5 _ h=> ?_);refine z.x.a9.b.k5.g ?_;refine zi [(26000101,25000101),(26000102,25000102),(26000103,25000103),(26000104,25000104)] [25000101,25000102,25000103,25000104] h (fun _=>zU) (fun v6 _ h=> ?_);refine z.a9.T.e.g ?_;refine zm h (fun _=>strings_HasPrefix_ok) (fun v7 _ h=> ?_);refine z.d3.g ?_;refine zn h (fun _ h=> ?_) (fun _ h=> ?_)
 ·refine z.a6.g ?_;apply zb [(25000101,25000101),(25000102,25000102),(25000103,25000103),(25000104,25000104)] hB h
 refine z.T.k5.f0.g ?_;refine QM (e:=cS) [[49,46,48]] ?_;refine zi [(27000101,25000101),(27000102,25000102),(27000103,25000103),(27000104,25000104),(27000105,1052)] [25000101,25000102,25000103,25000104,1052] h (fun _=>zaz) (fun v8 _ h=> ?_);refine z.h0.g ?_;refine zc h (fun _ h=> ?_) (fun _ h=> ?_)
 ·refine z.a6.i5.R.o.g ?_;apply zb [(25000101,25000101),(25000102,25000102),(25000103,25000103),(25000104,25000104)] hB h
 refine z.f.g ?_;refine zi [(31000101,25000101),(31000102,25000102),(31000103,25000103),(31000104,25000104)] [25000101,25000102,25000103,25000104] h (fun _=>parse_reader_encoding_s1_ok) (fun v9 _ h=> ?_);refine l_to [(25000101,25000101),(25000102,25000102),(25000103,25000103),(25000104,25000104)] ⟨[(0,.ptr 25000101 0),(55,B false),(57,B v9.1)],[(25000101,.box 104 [S v9.2,.sl 25000102 0 u4.length,.sl 25000103 0 u5.length,.nptr u2 25000101 3,.sl 25000104 0 u6.length,B u3]),(25000102,.row 48 8 0 (F zl u4)),(25000103,.row 194 2 0 (F zq u5)),(25000104,.row 5 1 0 (F cU u6))],[]⟩ hB ?_;refine z.q.Z.g ?_;refine zc h (fun _ h=> ?_) (fun _ h=> ?_)
 ·refine z.a6.i5.m.g ?_;apply zb [(25000101,25000101),(25000102,25000102),(25000103,25000103),(25000104,25000104)] hB h
 refine z.f.g ?_;refine QM (e:=cS) [[121,101,115],[110,111]] ?_;refine l_on ?_;refine zi [(27000101,25000101),(27000102,25000102),(27000103,25000103),(27000104,25000104),(27000105,1062)] [25000101,25000102,25000103,25000104,1062] h (fun _=>zaz) (fun v10 _ h=> ?_);refine z.d7.Z.g ?_;refine zn h (fun _ h=> ?_) (fun _ h=> ?_)
 ·refine z.a6.g ?_;apply zb [(25000101,25000101),(25000102,25000102),(25000103,25000103),(25000104,25000104)] hB h
 refine z.y.g ?_;refine zi [(26000101,25000101),(26000102,25000102),(26000103,25000103),(26000104,25000104)] [25000101,25000102,25000103,25000104] h (fun _=>zU) (fun v11 _ h=> ?_);refine z.c8.g ?_;refine zi [(28000101,25000101),(28000102,25000102),(28000103,25000103),(28000104,25000104)] [25000101,25000102,25000103,25000104] h (fun _=>zG) (fun v12 _ h=> ?_);refine z.l.g ?_;apply zb [(25000101,25000101),(25000102,25000102),(25000103,25000103),(25000104,25000104)] hB h
theorem strings_Builder_Len_s1_ok {u1:Str}{u2:Bool}{u3:Bool}{u4:(List ze)}{u5:(List zv)}{u6:Str}{r:Int}(h:Qj u1 u2 u3 u4 u5 u6=some r):XSpec Tryz.prog 213 [.ptr 35000101 3] [(35000101,.box 104 [S u1,.sl 35000102 0 u4.length,.sl 35000103 0 u5.length,.nptr u2 35000101 3,.sl 35000104 0 u6.length,B u3]),(35000102,.row 48 8 0 (F zl u4)),(35000103,.row 194 2 0 (F zq u5)),(35000104,.row 5 1 0 (F cU u6))] (I r) [(35000101,.box 104 [S u1,.sl 35000102 0 u4.length,.sl 35000103 0 u5.length,.nptr u2 35000101 3,.sl 35000104 0 u6.length,B u3]),(35000102,.row 48 8 0 (F zl u4)),(35000103,.row 194 2 0 (F zq u5)),(35000104,.row 5 1 0 (F cU u6))] []:=by
 unfold Qj at h;refine zd Tryz.hU Tryz.func213 (fun _ _ _ hB=> ?_);refine z.l.N.a9.a8.g ?_;apply zb [(35000101,35000101),(35000102,35000102),(35000103,35000103),(35000104,35000104)] hB h
theorem ZP {u1:Str}{u2:Bool}{u3:Bool}{u4:(List ze)}{u5:(List zv)}{u6:Str}{r:Int}(h:qH u1 u2 u3 u4 u5 u6=some r):XSpec Tryz.prog 163 [.ptr 36000101 0] [(36000101,.box 104 [S u1,.sl 36000102 0 u4.length,.sl 36000103 0 u5.length,.nptr u2 36000101 3,.sl 36000104 0 u6.length,B u3]),(36000102,.row 48 8 0 (F zl u4)),(36000103,.row 194 2 0 (F zq u5)),(36000104,.row 5 1 0 (F cU u6))] (I r) [(36000101,.box 104 [S u1,.sl 36000102 0 u4.length,.sl 36000103 0 u5.length,.nptr u2 36000101 3,.sl 36000104 0 u6.length,B u3]),(36000102,.row 48 8 0 (F zl u4)),(36000103,.row 194 2 0 (F zq u5)),(36000104,.row 5 1 0 (F cU u6))] []:=by
 unfold qH at h;refine zd Tryz.hU Tryz.func163 (fun _ _ _ hB=> ?_);refine z.u.N.a9.e9.g ?_;refine zn h (fun _ h=> ?_) (fun _ h=> ?_)
 ·refine z.a6.g ?_;apply zb [(36000101,36000101),(36000102,36000102),(36000103,36000103),(36000104,36000104)] hB h
 refine z.d8.g ?_;refine ZH [] (.q 0 (.q 1 (.q 2 (.q 3 (.q 4 (.q 5 (.q 6 (.q 7 (.q 8 (.q 9 (.q 10 (.q 11 (.q 12 (.q 13 .done)))))))))))))) hm ?_;refine z.d.m3.d.m8.d.e8.e8.g ?_;refine qc h (fun v1 ev1 h=> ?_);refine z.d.k0.g ?_;refine n_ldr0 ev1 ?_;refine z.l5.j3.m1.d.g ?_;apply zb [(36000101,36000101),(36000102,36000102),(36000103,36000103),(36000104,36000104)] hB h
theorem Z9 {u1:Str}{u2:Bool}{u3:Bool}{u4:(List ze)}{u5:(List zv)}{u6:Str}{r:Str}(h:ZO u1 u2 u3 u4 u5 u6=some r):XSpec Tryz.prog 79 [.ptr 37000101 3] [(37000101,.box 104 [S u1,.sl 37000102 0 u4.length,.sl 37000103 0 u5.length,.nptr u2 37000101 3,.sl 37000104 0 u6.length,B u3]),(37000102,.row 48 8 0 (F zl u4)),(37000103,.row 194 2 0 (F zq u5)),(37000104,.row 5 1 0 (F cU u6))] (S r) [(37000101,.box 104 [S u1,.sl 37000102 0 u4.length,.sl 37000103 0 u5.length,.nptr u2 37000101 3,.junk,B u3]),(37000102,.row 48 8 0 (F zl u4)),(37000103,.row 194 2 0 (F zq u5))] [37000104]:=by
 unfold ZO at h;refine zd Tryz.hU Tryz.func79 (fun _ _ _ hB=> ?_);refine z.k3.g ?_;refine ZH [10] (.q 0 (.q 1 (.q 2 (.q 3 (.q 5 (.q 6 (.q 7 (.q 8 (.q 9 (.e 4 (.e 10 (.q 11 .done)))))))))))) hm ?_;refine z.D.r2.D.m8.d.e8.e8.g ?_;refine n_ustr h (fun v1 _ h=> ?_);refine z.l5.j3.m1.d.g ?_;apply zb [(37000101,37000101),(37000102,37000102),(37000103,37000103)] hB h
theorem strings_Builder_Reset_s1_ok {u1:Str}{u2:Bool}{u3:Bool}{u4:(List ze)}{u5:(List zv)}{r:Unit}(h:ZY u1 u2 u3 u4 u5=some r):XSpec Tryz.prog 214 [.ptr 38000101 3] [(38000101,.box 104 [S u1,.sl 38000102 0 u4.length,.sl 38000103 0 u5.length,.nptr u2 38000101 3,.junk,B u3]),(38000102,.row 48 8 0 (F zl u4)),(38000103,.row 194 2 0 (F zq u5))] (.tup []) [(38000101,.box 104 [S u1,.sl 38000102 0 u4.length,.sl 38000103 0 u5.length,.nptr true 38000101 3,.pl (.slice none 0 0),B u3]),(38000102,.row 48 8 0 (F zl u4)),(38000103,.row 194 2 0 (F zq u5))] []:=by
 unfold ZY at h;refine zd Tryz.hU Tryz.func214 (fun _ _ _ hB=> ?_);refine z.d4.m5.c4.h.k5.b.g ?_;refine f_npcell (b:=38000101) (j:=3) 38000101 3 ?_;apply zb [(38000101,38000101),(38000102,38000102),(38000103,38000103)] hB h
theorem Q0 {u1:Str}{u2:Bool}{u3:Bool}{u4:(List ze)}{u5:(List zv)}{u6:Str}{r:Bool×(List ze)×Str}(h:qL u1 u2 u3 u4 u5 u6=some r):XSpec Tryz.prog 162 [.ptr 34000101 0] [(34000101,.box 104 [S u1,.sl 34000102 0 u4.length,.sl 34000103 0 u5.length,.nptr u2 34000101 3,.sl 34000104 0 u6.length,B u3]),(34000102,.row 48 8 0 (F zl u4)),(34000103,.row 194 2 0 (F zq u5)),(34000104,.row 5 1 0 (F cU u6))] (.tup []) [(34000101,.box 104 [S u1,.sl 34000102 0 r.2.1.length,.sl 34000103 0 u5.length,.nptr r.1 34000101 3,.sl 34000151 0 r.2.2.length,B u3]),(34000102,.row 48 8 0 (F zl r.2.1)),(34000103,.row 194 2 0 (F zq u5)),(34000151,.row 5 1 0 (F cU r.2.2))] [34000102,34000104]:=by
 unfold qL at h;refine zd Tryz.hU Tryz.func162 (fun _ _ _ hB=> ?_);refine z.c4.b.g ?_;refine zi [(35000101,34000101),(35000102,34000102),(35000103,34000103),(35000104,34000104)] [34000101,34000102,34000103,34000104] h (fun _=>strings_Builder_Len_s1_ok) (fun v1 _ h=> ?_);refine z.u.g ?_;refine zn h (fun _ h=> ?_) (fun _ h=> ?_)
 ·refine k_seq ?_;refine qW (fun q5=>(.normal,⟨[(0,.ptr 34000101 0)],[(34000101,.box 104 [S u1,.sl 34000102 0 q5.length,.sl 34000103 0 u5.length,.nptr u2 34000101 3,.junk,B u3]),(34000102,.row 48 8 0 (F zl q5)),(34000103,.row 194 2 0 (F zq u5))],[34000104,34000102]⟩)) h (fun t h=> ?_) (fun q5 h=> ?_)
  ·refine ZH [6,10,13,16] (.q 5 (.s 0 (.s 1 (.s 2 (.s 3 (.s 7 (.s 8 (.s 9 (.alt 4 (.e 6 (.e 10 (.q 11 (.e 12 (.e 13 (.q 14 (.q 15 (.e 16 .done)))))))) (.e 6 (.alt 4 (.e 10 (.q 11 (.e 12 (.e 13 (.q 14 (.q 15 (.e 16 .done))))))) (.e 10 (.q 4 (.q 11 (.e 12 (.e 13 (.q 14 (.q 15 (.e 16 .done))))))))))))))))))) hm ?_;refine z.q3.o5.r8.o5.k1.q3.o5.r8.o5.k1.k1.e2.g ?_;refine zW ?_ ?_
   ·refine z.D.l8.n8.g ?_;refine zT [(36000101,34000101),(36000102,34000102),(36000103,34000103),(36000104,34000104)] [34000101,34000102,34000103,34000104] h (fun _=>ZP) (fun v2 _ h=> ?_);refine ge ?_;refine zT [(37000101,34000101),(37000102,34000102),(37000103,34000103),(37000104,34000104)] [34000101,34000102,34000103,34000104] h (fun _=>Z9) (fun v3 _ h=> ?_);refine z.p8.d.g ?_;refine m_nilt 18 ?_;refine ge ?_;refine n_lit (e:=zl) [(ze.mk 2 v2 [] [] [] v3 [] [])] ?_;refine ge ?_;refine n_appo h (fun v4 _ h=> ?_);refine z.d9.n7.D.k0.l1.d.g ?_;exact zp [(34000101,34000101),(34000102,34000102),(34000103,34000103)] hB h
   refine ge ?_;refine zT [(36000101,34000101),(36000102,34000102),(36000103,34000103),(36000104,34000104)] [34000101,34000102,34000103,34000104] h (fun _=>ZP) (fun v2 _ h=> ?_);refine zW ?_ ?_
   ·refine z.D.l8.n8.g ?_;refine zT [(37000101,34000101),(37000102,34000102),(37000103,34000103),(37000104,34000104)] [34000101,34000102,34000103,34000104] h (fun _=>Z9) (fun v3 _ h=> ?_);refine z.p8.d.g ?_;refine m_nilt 18 ?_;refine ge ?_;refine n_lit (e:=zl) [(ze.mk 2 v2 [] [] [] v3 [] [])] ?_;refine ge ?_;refine n_appo h (fun v4 _ h=> ?_);refine z.d9.n7.D.k0.l1.d.g ?_;exact zp [(34000101,34000101),(34000102,34000102),(34000103,34000103)] hB h
   refine ge ?_;refine zT [(37000101,34000101),(37000102,34000102),(37000103,34000103),(37000104,34000104)] [34000101,34000102,34000103,34000104] h (fun _=>Z9) (fun v3 _ h=> ?_);refine z.p8.d.m0.g ?_;refine m_nilt 18 ?_;refine ge ?_;refine n_lit (e:=zl) [(ze.mk 2 v2 [] [] [] v3 [] [])] ?_;refine ge ?_;refine n_appo h (fun v4 _ h=> ?_);refine z.d9.n7.D.k0.l1.d.g ?_;exact zp [(34000101,34000101),(34000102,34000102),(34000103,34000103)] hB h
  refine z.c4.h.d1.g ?_;refine zi [(38000101,34000101),(38000102,34000102),(38000103,34000103)] [34000101,34000102,34000103] h (fun _=>strings_Builder_Reset_s1_ok) (fun v6 _ h=> ?_);refine k_nil ?_;refine f_nilcell (te:=5) (b1:=34000101) (j:=4) 340004014 1 ?_;apply zb [(34000101,34000101),(34000102,34000102),(34000103,34000103),(340004014,34000151)] hB h
 refine k_skip ?_;apply zb [(34000101,34000101),(34000102,34000102),(34000103,34000103),(34000104,34000151)] hB h
theorem Jt {u1:Int}{u2:Int}{u3:Str}{u4:Str}{u5:Str}{u6:Str}{u7:Str}{u8:Bool}{u9:Bool}{u10:(List ze)}{u11:(List zv)}{u12:Str}{r:Bool×(List ze)×Str}(h:Zd u1 u2 u3 u4 u5 u6 u7 u8 u9 u10 u11 u12=some r):XSpec Tryz.prog 106 [.ptr 33000101 0,.agg [I u1,I u2,S u3,S u4,S u5,S u6,.pl (.slice none 0 0),.pl (.slice none 0 0)]] [(33000101,.box 104 [S u7,.sl 33000102 0 u10.length,.sl 33000103 0 u11.length,.nptr u8 33000101 3,.sl 33000104 0 u12.length,B u9]),(33000102,.row 48 8 0 (F zl u10)),(33000103,.row 194 2 0 (F zq u11)),(33000104,.row 5 1 0 (F cU u12))] (.tup []) [(33000101,.box 104 [S u7,.sl 33000102 0 r.2.1.length,.sl 33000103 0 u11.length,.nptr r.1 33000101 3,.sl 33000151 0 r.2.2.length,B u9]),(33000102,.row 48 8 0 (F zl r.2.1)),(33000103,.row 194 2 0 (F zq u11)),(33000151,.row 5 1 0 (F cU r.2.2))] [33000102,33000104]:=by
 unfold Zd at h;refine zd Tryz.hU Tryz.func106 (fun _ _ _ hB=> ?_);refine z.c8.l3.c.g ?_;refine zi [(34000101,33000101),(34000102,33000102),(34000103,33000103),(34000104,33000104),(34000151,100551)] [33000101,33000102,33000103,33000104] h (fun _=>Q0) (fun v1 _ h=> ?_);refine z.c8.g ?_;refine zi [(36000101,33000101),(36000102,33000102),(36000103,33000103),(36000104,100551)] [33000101,33000102,33000103,100551] h (fun _=>ZP) (fun v2 _ h=> ?_);refine z.f4.o6.g ?_;refine ZH [7,10] (.q 1 (.q 2 (.q 3 (.q 4 (.q 5 (.s 0 (.e 6 (.e 7 (.q 8 (.q 9 (.e 10 .done))))))))))) hm ?_;refine z.k1.q2.d.e8.g ?_;refine m_nilt 14 ?_;refine ge ?_;refine n_lit (e:=zl) [(ze.mk u1 v2 u3 u4 u5 u6 [] [])] ?_;refine ge ?_;refine n_appo h (fun v3 _ h=> ?_);refine z.d9.n7.D.k0.l1.d.g ?_;apply zb [(33000101,33000101),(33000102,33000102),(33000103,33000103),(100551,33000151)] hB h
theorem strings_Builder_copyCheck_s3_ok {u1:Str}{u2:Bool}{u3:Bool}{u4:(List ze)}{u5:(List zv)}{u6:Str}{r:Unit}(h:Zp u1 u2 u3 u4 u5 u6=some r):XSpec Tryz.prog 139 [.ptr 40000101 3] [(40000101,.box 104 [S u1,.sl 40000102 0 u4.length,.sl 40000103 0 u5.length,.nptr u2 40000101 3,.sl 40000104 0 u6.length,B u3]),(40000102,.row 48 8 0 (F zl u4)),(40000103,.row 194 2 0 (F zq u5)),(40000104,.row 5 1 0 (F cU u6))] (.tup []) [(40000101,.box 104 [S u1,.sl 40000102 0 u4.length,.sl 40000103 0 u5.length,.nptr false 40000101 3,.sl 40000104 0 u6.length,B u3]),(40000102,.row 48 8 0 (F zl u4)),(40000103,.row 194 2 0 (F zq u5)),(40000104,.row 5 1 0 (F cU u6))] []:=by
 unfold Zp at h;refine zd Tryz.hU Tryz.func139 (fun _ _ _ hB=> ?_);refine z.a9.b.g ?_
 cases u2 with
 |true=>
  replace h:=bif_t h
  refine z.o9.C.e0.e.o2.g ?_;refine l_nat (noEscape_spec Tryz.func193 (.ptr 40000101 3:AV)) ?_;refine l_fromunsafe (P:=Tryz.prog) ?_;refine z.d4.m5.c4.g ?_;apply zb [(40000101,40000101),(40000102,40000102),(40000103,40000103),(40000104,40000104)] hB h
 |false=>
  replace h:=bif_f h
  refine z.Y.i0.e.p9.i3.b.i0.e.o2.g ?_;apply zb [(40000101,40000101),(40000102,40000102),(40000103,40000103),(40000104,40000104)] hB h
theorem Zz {u1:Str}{u2:Str}{u3:Bool}{u4:Bool}{u5:(List ze)}{u6:(List zv)}{u7:Str}{r:Int×Str}(h:zK u1 u2 u3 u4 u5 u6 u7=some r):XSpec Tryz.prog 78 [.ptr 39000101 3,S u1] [(39000101,.box 104 [S u2,.sl 39000102 0 u5.length,.sl 39000103 0 u6.length,.nptr u3 39000101 3,.sl 39000104 0 u7.length,B u4]),(39000102,.row 48 8 0 (F zl u5)),(39000103,.row 194 2 0 (F zq u6)),(39000104,.row 5 1 0 (F cU u7))] (.tup [I r.1,.pl .nilIface]) [(39000101,.box 104 [S u2,.sl 39000102 0 u5.length,.sl 39000103 0 u6.length,.nptr false 39000101 3,.sl 39000104 0 r.2.length,B u4]),(39000102,.row 48 8 0 (F zl u5)),(39000103,.row 194 2 0 (F zq u6)),(39000104,.row 5 1 0 (F cU r.2))] [39000104]:=by
 unfold zK at h;refine zd Tryz.hU Tryz.func78 (fun _ _ _ hB=> ?_);refine z.x.t.g ?_;refine zi [(40000101,39000101),(40000102,39000102),(40000103,39000103),(40000104,39000104)] [39000101,39000102,39000103,39000104] h (fun _=>strings_Builder_copyCheck_s3_ok) (fun v1 _ h=> ?_);refine z.i3.i.e.g ?_;refine l_apps h (fun v2 _ h=> ?_);refine z.a3.V.b.k5.g ?_;apply zb [(39000101,39000101),(39000102,39000102),(39000103,39000103),(39000104,39000104)] hB h
theorem zh {u1:Str}{u2:Bool}{u3:Bool}{u4:(List ze)}{u5:(List zv)}{u6:Str}{r:Str×Str}(h:qF u1 u2 u3 u4 u5 u6=some r):XSpec Tryz.prog 164 [.ptr 42000101 0] [(42000101,.box 104 [S u1,.sl 42000102 0 u4.length,.sl 42000103 0 u5.length,.nptr u2 42000101 3,.sl 42000104 0 u6.length,B u3]),(42000102,.row 48 8 0 (F zl u4)),(42000103,.row 194 2 0 (F zq u5)),(42000104,.row 5 1 0 (F cU u6))] (S r.1) [(42000101,.box 104 [S r.2,.sl 42000102 0 u4.length,.sl 42000103 0 u5.length,.nptr u2 42000101 3,.sl 42000104 0 u6.length,B u3]),(42000102,.row 48 8 0 (F zl u4)),(42000103,.row 194 2 0 (F zq u5)),(42000104,.row 5 1 0 (F cU u6))] []:=by
 unfold qF at h;refine zd Tryz.hU Tryz.func164 (fun _ _ _ hB=> ?_);refine z.l7.t0.a9.e9.j.c.g ?_;refine zH (fun y1=>⟨[(0,.ptr 42000101 0),(3,I y1.1),(11,.it 1011)],[(42000101,.box 104 [S u1,.sl 42000102 0 u4.length,.sl 42000103 0 u5.length,.nptr u2 42000101 3,.sl 42000104 0 u6.length,B u3]),(42000102,.row 48 8 0 (F zl u4)),(42000103,.row 194 2 0 (F zq u5)),(42000104,.row 5 1 0 (F cU u6)),(1011,.siter ⟨u1.toArray⟩ y1.2)],[]⟩) (fun q3=>(.exit 0,⟨[(0,.ptr 42000101 0),(3,I q3)],[(42000101,.box 104 [S u1,.sl 42000102 0 u4.length,.sl 42000103 0 u5.length,.nptr u2 42000101 3,.sl 42000104 0 u6.length,B u3]),(42000102,.row 48 8 0 (F zl u4)),(42000103,.row 194 2 0 (F zq u5)),(42000104,.row 5 1 0 (F cU u6))],[]⟩)) [(42000101,42000101),(42000102,42000102),(42000103,42000103),(42000104,42000104),(1011,1011)] hB h (fun y1 t h=> ?_) (fun q3 h=> ?_)
 ·unfold zL at h;refine z.c.g ?_;refine l_next h (fun _ h=> ?_) (fun _ h=> ?_)
  ·refine z.w.G.A.n1.c.k4.e0.H.e.p2.g ?_;refine zc h (fun _ h=> ?_) (fun _ h=> ?_)
   ·refine z.f.g ?_;refine zm h (fun _=>name_Stands_ok) (fun v2 _ h=> ?_);refine z.i2.Z.g ?_;refine zn h (fun _ h=> ?_) (fun _ h=> ?_)
    ·refine z.q8.k.g ?_;exact zr [(42000101,42000101),(42000102,42000102),(42000103,42000103),(42000104,42000104)] hB h
    refine z.h4.c2.V.r9.C.I.g ?_;exact zu [(42000101,42000101),(42000102,42000102),(42000103,42000103),(42000104,42000104),(1011,1011)] hB h
   refine z.h4.c2.V.r9.C.I.h8.o.g ?_;exact zu [(42000101,42000101),(42000102,42000102),(42000103,42000103),(42000104,42000104),(1011,1011)] hB h
  refine z.k.i0.H.e.p2.g ?_;exact zr [(42000101,42000101),(42000102,42000102),(42000103,42000103),(42000104,42000104)] hB h
 refine z.i3.i9.g ?_;refine Zr h (fun v4 _ h=> ?_);refine z.i3.p.g ?_;refine Zr h (fun v5 _ h=> ?_);refine z.l.b.k5.g ?_;apply zb [(42000101,42000101),(42000102,42000102),(42000103,42000103),(42000104,42000104)] hB h
theorem parse_reader_instruction_s1_ok {u1:Str}{u2:Bool}{u3:Bool}{u4:(List ze)}{u5:(List zv)}{u6:Str}{r:Bool×Str×Bool×(List ze)×Str}(h:qO u1 u2 u3 u4 u5 u6=some r):XSpec Tryz.prog 107 [.ptr 41000101 0] [(41000101,.box 104 [S u1,.sl 41000102 0 u4.length,.sl 41000103 0 u5.length,.nptr u2 41000101 3,.sl 41000104 0 u6.length,B u3]),(41000102,.row 48 8 0 (F zl u4)),(41000103,.row 194 2 0 (F zq u5)),(41000104,.row 5 1 0 (F cU u6))] (B r.1) [(41000101,.box 104 [S r.2.1,.sl 41000102 0 r.2.2.2.1.length,.sl 41000103 0 u5.length,.nptr r.2.2.1 41000101 3,.sl 41000151 0 r.2.2.2.2.length,B u3]),(41000102,.row 48 8 0 (F zl r.2.2.2.1)),(41000103,.row 194 2 0 (F zq u5)),(41000151,.row 5 1 0 (F cU r.2.2.2.2))] [41000102,41000104]:=by
 unfold qO at h;refine zd Tryz.hU Tryz.func107 (fun _ _ _ hB=> ?_);refine z.a8.g ?_;refine zi [(42000101,41000101),(42000102,41000102),(42000103,41000103),(42000104,41000104)] [41000101,41000102,41000103,41000104] h (fun _=>zh) (fun v1 _ h=> ?_);refine z.x.g ?_;refine zi [(26000101,41000101),(26000102,41000102),(26000103,41000103),(26000104,41000104)] [41000101,41000102,41000103,41000104] h (fun _=>zU) (fun v2 _ h=> ?_);refine z.x.g ?_;refine zi [(30000101,41000101),(30000102,41000102),(30000103,41000103),(30000104,41000104)] [41000101,41000102,41000103,41000104] h (fun _=>ZZ) (fun v3 _ h=> ?_);refine z.h0.G.M.g ?_;refine zc h (fun _ h=> ?_) (fun _ h=> ?_)
 ·refine z.a6.i5.n.m.g ?_;apply zb [(41000101,41000101),(41000102,41000102),(41000103,41000103),(41000104,41000151)] hB h
 refine z.r.j9.f.g ?_;refine zc h (fun _ h=> ?_) (fun _ h=> ?_)
 ·refine z.d7.f5.j0.f.g ?_;refine zn h (fun _ h=> ?_) (fun _ h=> ?_)
  ·refine z.a6.g ?_;apply zb [(41000101,41000101),(41000102,41000102),(41000103,41000103),(41000104,41000151)] hB h
  refine z.l0.a.f0.g ?_;refine zi [(33000101,41000101),(33000102,41000102),(33000103,41000103),(33000104,41000104),(33000151,103051)] [41000101,41000102,41000103,41000104] h (fun _=>Jt) (fun v4 _ h=> ?_);refine z.b2.e.g ?_;apply zb [(41000101,41000101),(41000102,41000102),(41000103,41000103),(103051,41000151)] hB h
 refine z.l0.a.f0.h8.f8.n.g ?_;refine zi [(33000101,41000101),(33000102,41000102),(33000103,41000103),(33000104,41000104),(33000151,103051)] [41000101,41000102,41000103,41000104] h (fun _=>Jt) (fun v5 _ h=> ?_);refine z.b2.e.g ?_;apply zb [(41000101,41000101),(41000102,41000102),(41000103,41000103),(103051,41000151)] hB h
end Go.Proofs.YtojbjdcflgeibaaGreatDoor
