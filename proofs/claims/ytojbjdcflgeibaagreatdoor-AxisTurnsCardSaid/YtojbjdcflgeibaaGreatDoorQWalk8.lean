/- WALKS, printed by aw.py: that the program's functions compute the plain ones. Conditions: none. -/
import Derived.Test.YtojbjdcflgeibaaGreatDoorQWalk7
set_option linter.unusedVariables false
set_option linter.unusedSimpArgs false
set_option maxRecDepth 20000
set_option maxHeartbeats 4000000
namespace Go.Proofs.YtojbjdcflgeibaaGreatDoor
open Go Go.Abs W G
theorem point_some_ok {n:Int}{part:Int}{many:Int}{r:(List zk)}(h:point_some n part many=some r):XSpec Tryz.prog 77 [I n,I part,I many] [] (.sl 1 0 r.length) [(1,.row 54 3 0 (F zG r))] []:=by
 unfold point_some at h;refine zc Tryz.hU Tryz.func77 (fun _ _ _ hB=> ?_);refine z.m4.i.k4.o.c.g ?_;refine k_nilrow (te:=54) (t:=7) 3007 3 ?_;refine zF (fun y1=>⟨[(0,I n),(1,I part),(7,.sl 3007 0 y1.2.length),(9,I many),(10,I y1.1)],[(3007,.row 54 3 0 (F zG y1.2))],[]⟩) (fun q3=>(.exit 0,⟨[(7,.sl 3007 0 q3.length)],[(3007,.row 54 3 0 (F zG q3))],[]⟩)) [(3007,3007)] hB h (fun y1 t h=> ?_) (fun q3 h=> ?_)
 ·unfold point_some_b1 at h;refine z.a8.g ?_;refine zn h (fun _ h=> ?_) (fun _ h=> ?_)
  ·refine z.f1.k1.o.j7.g ?_;refine Z6 (e:=zG) [(zk.mk n part y1.1)] ?_;refine Jp h (fun v2 _ h=> ?_);refine z.e4.s.g ?_;exact zu [(3007,3007)] hB h
  refine z.l.g ?_;exact zr [(3007,3007)] hB h
 refine z.h.k7.g ?_;apply za [(3007,1)] hB h
theorem point_Spaces_ok {d:(Option qg)}{n:Int}{r:(List zk)}(h:point_Spaces d n=some r):XSpec Tryz.prog 31 [oP Zs d,I n] [] (.sl 1 0 r.length) [(1,.row 54 3 0 (F zG r))] []:=by
 unfold point_Spaces at h;refine zc Tryz.hU Tryz.func31 (fun _ _ _ hB=> ?_);refine z.a.k6.g ?_;refine zg [(1,100801)] [] h (fun _=>space_Scope_ok) (fun v1 _ h=> ?_);refine l_len ?_;refine zg [(1,101001)] [] h (fun _=>point_some_ok) (fun v2 _ h=> ?_);refine z.h.g ?_;apply za [(101001,1)] hB h
theorem point_Marks_ok {d:(Option qg)}{n:Int}{r:(List zk)}(h:point_Marks d n=some r):XSpec Tryz.prog 32 [oP Zs d,I n] [] (.sl 1 0 r.length) [(1,.row 54 3 0 (F zG r))] []:=by
 unfold point_Marks at h;refine zc Tryz.hU Tryz.func32 (fun _ _ _ hB=> ?_);refine z.a.k6.g ?_;refine zo h (fun _=>J7) (fun v1 _ h=> ?_);refine z.I.q3.g ?_;refine zg [(1,101101)] [] h (fun _=>point_some_ok) (fun v2 _ h=> ?_);refine z.h.g ?_;apply za [(101101,1)] hB h
theorem point_Has_ok {d:(Option qg)}{p:zk}{r:Bool}(h:QX d p=some r):XSpec Tryz.prog 40 [oP Zs d,.agg (zG p)] [] (B r) [] []:=by
 unfold QX at h;refine zc Tryz.hU Tryz.func40 (fun _ _ _ hB=> ?_);refine z.f3.l2.g ?_;refine qQ (fun q2=>(.normal,⟨[(0,oP Zs d),(3,.ptr 1003 0),(19,B q2)],[(1003,.box 54 [I p.N,I p.Part,I p.I])],[]⟩)) h (fun t h=> ?_) (fun q2 h=> ?_)
 ·refine qX [] (.q 0 (.q 1 (.q 2 (.q 3 (.q 4 (.q 5 (.q 6 (.e 7 (.q 8 (.q 9 (.q 10 (.q 11 (.q 12 (.q 13 (.q 14 .done))))))))))))))) hm ?_;refine z.A.b3.d.m6.g ?_;refine QP h (fun _ h=> ?_) (fun _ h=> ?_)
  ·refine z.k3.X.s3.X.v.n7.X.g ?_;exact zq [(1003,1003)] hB h
  refine z.L.n6.b6.o7.h0.g ?_;refine n_call h (fun _=>JG) (fun v1 _ h=> ?_);refine z.A.n3.b3.u.g ?_;refine QP h (fun _ h=> ?_) (fun _ h=> ?_)
  ·refine z.k3.X.g ?_;exact zq [(1003,1003)] hB h
  refine z.p4.b3.b6.o7.h0.g ?_;exact zq [(1003,1003)] hB h
 refine f_t ?_;refine zn h (fun _ h=> ?_) (fun _ h=> ?_)
 ·refine z.S.g ?_;apply za [] hB h
 refine z.d2.c.m4.e2.e3.g ?_;refine zn h (fun _ h=> ?_) (fun _ h=> ?_)
 ·refine z.E.d7.e2.g ?_;apply za [] hB h
 refine z.d2.c.g ?_;refine zn h (fun _ h=> ?_) (fun _ h=> ?_)
 ·refine zaE ?_;refine qX [] (.q 0 (.q 1 (.q 2 (.q 3 (.q 4 (.e 5 (.q 6 (.q 7 (.q 8 .done))))))))) hm ?_;refine z.v.i5.l5.A.m6.g ?_;refine zI [(1,103401)] [] h (fun _=>space_Scope_ok) (fun v3 _ h=> ?_);refine z.B.h6.f2.k5.b3.d.n2.d.g ?_;apply za [] hB h
 refine z.d2.c.g ?_;refine zn h (fun _ h=> ?_) (fun _ h=> ?_)
 ·refine zaE ?_;refine qX [] (.q 0 (.q 1 (.q 2 (.q 3 (.q 4 (.e 5 (.q 6 (.q 7 (.q 8 (.q 9 .done)))))))))) hm ?_;refine z.v.i5.l5.A.m6.g ?_;refine n_call h (fun _=>J7) (fun v4 _ h=> ?_);refine z.B.h6.f2.k5.b3.d.n2.d.t8.d.g ?_;apply za [] hB h
 refine z.e1.f0.Q.g ?_;apply za [] hB h
theorem point_Parent_ok {d:(Option qg)}{p:zk}{r:zk×Bool}(h:Qw d p=some r):XSpec Tryz.prog 38 [oP Zs d,.agg (zG p)] [] (.tup [.agg (zG r.1),B r.2]) [] []:=by
 unfold Qw at h;refine zc Tryz.hU Tryz.func38 (fun _ _ _ hB=> ?_);refine z.a6.b.c6.b1.d1.l2.g ?_;refine zo h (fun _=>point_Has_ok) (fun v1 _ h=> ?_);refine z.o.i8.g ?_;refine zn h (fun _ h=> ?_) (fun _ h=> ?_)
 ·refine z.E.k9.f1.c.g ?_;apply za [] hB h
 refine z.d2.e2.g ?_;refine zn h (fun _ h=> ?_) (fun _ h=> ?_)
 ·refine z.E.k9.f1.e2.g ?_;apply za [] hB h
 refine z.d2.e2.g ?_;refine zn h (fun _ h=> ?_) (fun _ h=> ?_)
 ·refine z.E.k9.f1.c.g ?_;apply za [] hB h
 refine z.G.b.f0.Q.g ?_;refine zo h (fun _=>J7) (fun v2 _ h=> ?_);refine z.h.k9.f1.q3.g ?_;apply za [] hB h
end Go.Proofs.YtojbjdcflgeibaaGreatDoor
