/- WALKS, printed by aw.py: that the program's functions compute the plain ones. Conditions: none. -/
import Derived.Test.YtojbjdcflgeibaaGreatDoorQWalk4
set_option linter.unusedVariables false
set_option linter.unusedSimpArgs false
set_option maxRecDepth 20000
set_option maxHeartbeats 4000000
namespace Go.Proofs.YtojbjdcflgeibaaGreatDoor
open Go Go.Abs W G
theorem alike_pair_kids_c1_ok {frec:(Zf→Int→Int→Option Bool)}(hrec: ∀ {p:Zf} {n:Int} {m:Int} {r:Bool},frec p n m=some r→XSpec Tryz.prog 63 [.agg (c_TPair p),I n,I m] [] (B r) [] []){x:qb}{y_:qb}{p2:Zf}{r:Bool}(h:ZW frec x y_ p2=some r):XSpec Tryz.prog 178 [.agg (QU x),.agg (QU y_),.vptr (c_TPair p2)] [] (B r) [] []:=by
 unfold ZW at h;refine zf Tryz.hU Tryz.func178 (fun _ _ _ hB=> ?_);refine z.e2.i6.i6.b.g ?_;refine qW (fun q1=>(.normal,⟨[(2,.vptr (c_TPair p2)),(3,.ptr 1003 0),(4,.ptr 1004 0),(11,B q1)],[(1003,.box 205 [I x.n,S x.text,B x.is_]),(1004,.box 205 [I y_.n,S y_.text,B y_.is_])],[]⟩)) h (fun t h=> ?_) (fun q1 h=> ?_)
 ·refine z.a.T.l2.g ?_;refine zb h (fun _ h=> ?_) (fun _ h=> ?_)
  ·refine z.L.k.g ?_;exact zm [(1003,1003),(1004,1004)] hB h
  refine z.c8.l4.g ?_;exact zm [(1003,1003),(1004,1004)] hB h
 refine f_t ?_;refine zo h (fun _ h=> ?_) (fun _ h=> ?_)
 ·refine z.a.p1.T.e6.g ?_;refine zb h (fun _ h=> ?_) (fun _ h=> ?_)
  ·refine z.i9.X.h0.l4.g ?_;apply za [] hB h
  refine z.i9.c1.f3.j.g ?_;apply za [] hB h
 refine z.T.T.b3.b.D.g ?_;refine zl h (fun _=>hrec) (fun v2 _ h=> ?_);refine z.e.g ?_;apply za [] hB h
theorem alike_pair_kids_ok {frec:(Zf→Int→Int→Option Bool)}(hrec: ∀ {p:Zf} {n:Int} {m:Int} {r:Bool},frec p n m=some r→XSpec Tryz.prog 63 [.agg (c_TPair p),I n,I m] [] (B r) [] []){p:Zf}{n:Int}{m:Int}{r:Bool}(h:Z8 frec p n m=some r):XSpec Tryz.prog 114 [.agg (c_TPair p),I n,I m] [] (B r) [] []:=by
 unfold Z8 at h;refine zf Tryz.hU Tryz.func114 (fun _ _ _ hB=> ?_);refine z.a9.i6.b.g ?_;refine Z6 [] (.q 0 (.q 1 (.q 2 (.q 3 (.q 5 (.q 6 (.q 7 (.q 8 (.q 10 (.e 4 (.e 9 (.e 11 (.q 12 .done))))))))))))) hm ?_;refine z.K.r6.x.f7.j5.n1.x.f7.j5.n1.m.g ?_;refine zH [(1,101101)] [] h (fun _=>alike_pair_items_ok) (fun v1 _ h=> ?_);refine ge ?_;refine zH [(1,101601)] [] h (fun _=>alike_pair_items_ok) (fun v2 _ h=> ?_);refine ge ?_;refine n_callB h (fun _=>slices_EqualFunc_item_ok (fun h=>(alike_pair_kids_c1_ok @hrec) h) ⟨rfl,rfl⟩) (fun v3 _ h=> ?_);refine z.l3.P.e7.l5.m.g ?_;apply za [] hB h
theorem alike_pair_nodes_F_ok {frec:(Zf→Int→Int→Option Bool)}(hrec: ∀ {p:Zf} {n:Int} {m:Int} {r:Bool},frec p n m=some r→XSpec Tryz.prog 63 [.agg (c_TPair p),I n,I m] [] (B r) [] []){p:Zf}{n:Int}{m:Int}{r:Bool}(h:qB frec p n m=some r):XSpec Tryz.prog 63 [.agg (c_TPair p),I n,I m] [] (B r) [] []:=by
 unfold qB at h;refine zf Tryz.hU Tryz.func63 (fun _ _ _ hB=> ?_);refine z.a9.i6.b.g ?_;refine qW (fun q3=>(.normal,⟨[(1,I n),(2,I m),(3,.ptr 1003 0),(7,.ptr 1007 0),(8,.ptr 1008 0)],[(1003,.box 107 [oP qg p.a,oP qg p.b,B p.comments]),(1007,.box 48 [I q3.1,I q3.2.1,S q3.2.2.1,S q3.2.2.2.1,S q3.2.2.2.2.1,S q3.2.2.2.2.2.1,.vs q3.2.2.2.2.2.2.1.length (F zB q3.2.2.2.2.2.2.1),.vs q3.2.2.2.2.2.2.2.1.length (F zI q3.2.2.2.2.2.2.2.1)]),(1008,.box 48 [I q3.2.2.2.2.2.2.2.2.1,I q3.2.2.2.2.2.2.2.2.2.1,S q3.2.2.2.2.2.2.2.2.2.2.1,S q3.2.2.2.2.2.2.2.2.2.2.2.1,S q3.2.2.2.2.2.2.2.2.2.2.2.2.1,S q3.2.2.2.2.2.2.2.2.2.2.2.2.2.1,.vs q3.2.2.2.2.2.2.2.2.2.2.2.2.2.2.1.length (F zB q3.2.2.2.2.2.2.2.2.2.2.2.2.2.2.1),.vs q3.2.2.2.2.2.2.2.2.2.2.2.2.2.2.2.length (F zI q3.2.2.2.2.2.2.2.2.2.2.2.2.2.2.2)])],[]⟩)) h (fun t h=> ?_) (fun q3 h=> ?_)
 ·refine Z6 [10,11] (.q 0 (.q 1 (.q 2 (.q 4 (.q 5 (.q 6 (.alt 3 (.alt 7 (.alt 8 (.e 9 (.e 10 (.e 11 .done))) (.e 9 (.e 8 (.e 10 (.e 11 .done))))) (.alt 8 (.alt 7 (.e 9 (.e 10 (.e 11 .done))) (.e 9 (.e 7 (.e 10 (.e 11 .done))))) (.e 9 (.alt 7 (.e 8 (.e 10 (.e 11 .done))) (.e 8 (.e 7 (.e 10 (.e 11 .done)))))))) (.alt 8 (.alt 3 (.alt 7 (.e 9 (.e 10 (.e 11 .done))) (.e 9 (.e 7 (.e 10 (.e 11 .done))))) (.e 9 (.e 3 (.e 7 (.e 10 (.e 11 .done)))))) (.e 9 (.alt 3 (.alt 7 (.e 8 (.e 10 (.e 11 .done))) (.e 8 (.e 7 (.e 10 (.e 11 .done))))) (.e 8 (.e 3 (.e 7 (.e 10 (.e 11 .done))))))))))))))) hm ?_;refine z.j1.f7.l1.x.f7.j5.g ?_;refine zG ?_ (zG ?_ ?_)
  ·refine ge ?_;refine ZV h (fun _=>zJ) (fun v1 _ h=> ?_);refine zG ?_ (zG ?_ ?_)
   ·refine ge ?_;refine ZV h (fun _=>zJ) (fun v2 _ h=> ?_);refine zG ?_ ?_
    ·refine z.h3.k6.i7.i7.g ?_;exact zm [(1003,1003),(1007,1007),(1008,1008)] hB h
    refine z.h3.k6.i7.i7.g ?_;exact zm [(1003,1003),(1007,1007),(1008,1008)] hB h
   ·refine z.i7.g ?_;refine zG ?_ ?_
    ·refine ge ?_;refine ZV h (fun _=>zJ) (fun v2 _ h=> ?_);refine z.h3.k6.i7.g ?_;exact zm [(1003,1003),(1007,1007),(1008,1008)] hB h
    refine z.K.i7.g ?_;refine ZV h (fun _=>zJ) (fun v2 _ h=> ?_);refine z.h3.k6.g ?_;exact zm [(1003,1003),(1007,1007),(1008,1008)] hB h
   refine z.i7.g ?_;refine zG ?_ ?_
   ·refine ge ?_;refine ZV h (fun _=>zJ) (fun v2 _ h=> ?_);refine z.h3.k6.i7.g ?_;exact zm [(1003,1003),(1007,1007),(1008,1008)] hB h
   refine z.K.i7.g ?_;refine ZV h (fun _=>zJ) (fun v2 _ h=> ?_);refine z.h3.k6.g ?_;exact zm [(1003,1003),(1007,1007),(1008,1008)] hB h
  ·refine z.i7.g ?_;refine zG ?_ ?_
   ·refine ge ?_;refine ZV h (fun _=>zJ) (fun v1 _ h=> ?_);refine zG ?_ ?_
    ·refine ge ?_;refine ZV h (fun _=>zJ) (fun v2 _ h=> ?_);refine z.h3.k6.i7.g ?_;exact zm [(1003,1003),(1007,1007),(1008,1008)] hB h
    refine z.K.i7.g ?_;refine ZV h (fun _=>zJ) (fun v2 _ h=> ?_);refine z.h3.k6.g ?_;exact zm [(1003,1003),(1007,1007),(1008,1008)] hB h
   refine z.K.i7.g ?_;refine ZV h (fun _=>zJ) (fun v1 _ h=> ?_);refine ge ?_;refine ZV h (fun _=>zJ) (fun v2 _ h=> ?_);refine z.h3.k6.g ?_;exact zm [(1003,1003),(1007,1007),(1008,1008)] hB h
  refine z.i7.g ?_;refine zG ?_ ?_
  ·refine ge ?_;refine ZV h (fun _=>zJ) (fun v1 _ h=> ?_);refine zG ?_ ?_
   ·refine ge ?_;refine ZV h (fun _=>zJ) (fun v2 _ h=> ?_);refine z.h3.k6.i7.g ?_;exact zm [(1003,1003),(1007,1007),(1008,1008)] hB h
   refine z.K.i7.g ?_;refine ZV h (fun _=>zJ) (fun v2 _ h=> ?_);refine z.h3.k6.g ?_;exact zm [(1003,1003),(1007,1007),(1008,1008)] hB h
  refine z.K.i7.g ?_;refine ZV h (fun _=>zJ) (fun v1 _ h=> ?_);refine ge ?_;refine ZV h (fun _=>zJ) (fun v2 _ h=> ?_);refine z.h3.k6.g ?_;exact zm [(1003,1003),(1007,1007),(1008,1008)] hB h
 refine z.a7.a7.P.g ?_;refine qW (fun q4=>(.normal,⟨[(1,I n),(2,I m),(3,.ptr 1003 0),(7,.ptr 1007 0),(8,.ptr 1008 0),(60,B q4)],[(1003,.box 107 [oP qg p.a,oP qg p.b,B p.comments]),(1007,.box 48 [I q3.1,I q3.2.1,S q3.2.2.1,S q3.2.2.2.1,S q3.2.2.2.2.1,S q3.2.2.2.2.2.1,.vs q3.2.2.2.2.2.2.1.length (F zB q3.2.2.2.2.2.2.1),.vs q3.2.2.2.2.2.2.2.1.length (F zI q3.2.2.2.2.2.2.2.1)]),(1008,.box 48 [I q3.2.2.2.2.2.2.2.2.1,I q3.2.2.2.2.2.2.2.2.2.1,S q3.2.2.2.2.2.2.2.2.2.2.1,S q3.2.2.2.2.2.2.2.2.2.2.2.1,S q3.2.2.2.2.2.2.2.2.2.2.2.2.1,S q3.2.2.2.2.2.2.2.2.2.2.2.2.2.1,.vs q3.2.2.2.2.2.2.2.2.2.2.2.2.2.2.1.length (F zB q3.2.2.2.2.2.2.2.2.2.2.2.2.2.2.1),.vs q3.2.2.2.2.2.2.2.2.2.2.2.2.2.2.2.length (F zI q3.2.2.2.2.2.2.2.2.2.2.2.2.2.2.2)])],[]⟩)) h (fun t h=> ?_) (fun q4 h=> ?_)
 ·refine z.B.T.T.l2.g ?_;refine zb h (fun _ h=> ?_) (fun _ h=> ?_)
  ·refine z.L.l.h2.h2.h2.h2.j.g ?_;exact zm [(1003,1003),(1007,1007),(1008,1008)] hB h
  refine z.n.f5.u.l4.g ?_;refine zb h (fun _ h=> ?_) (fun _ h=> ?_)
  ·refine z.L.l.h2.h2.h2.j.g ?_;exact zm [(1003,1003),(1007,1007),(1008,1008)] hB h
  refine z.n.f5.u.l4.g ?_;refine zb h (fun _ h=> ?_) (fun _ h=> ?_)
  ·refine z.L.l.h2.h2.j.g ?_;exact zm [(1003,1003),(1007,1007),(1008,1008)] hB h
  refine z.n.f5.u.l4.g ?_;refine zb h (fun _ h=> ?_) (fun _ h=> ?_)
  ·refine z.L.l.h2.j.g ?_;exact zm [(1003,1003),(1007,1007),(1008,1008)] hB h
  refine z.n.f5.u.l4.g ?_;refine zb h (fun _ h=> ?_) (fun _ h=> ?_)
  ·refine z.L.l.j.g ?_;exact zm [(1003,1003),(1007,1007),(1008,1008)] hB h
  refine z.c8.b8.F.u.F.u.g ?_;exact zm [(1003,1003),(1007,1007),(1008,1008)] hB h
 refine f_t ?_;refine zo h (fun _ h=> ?_) (fun _ h=> ?_)
 ·refine z.Z.g ?_;apply za [] hB h
 refine z.d6.e6.h4.g ?_;refine zS (fun y5=>⟨[(1,I n),(2,I m),(3,.ptr 1003 0),(8,.ptr 1008 0),(62,.vs q3.2.2.2.2.2.2.2.1.length (F zI q3.2.2.2.2.2.2.2.1)),(63,I (q3.2.2.2.2.2.2.2.1.length:Int)),(64,I y5)],[(1003,.box 107 [oP qg p.a,oP qg p.b,B p.comments]),(1008,.box 48 [I q3.2.2.2.2.2.2.2.2.1,I q3.2.2.2.2.2.2.2.2.2.1,S q3.2.2.2.2.2.2.2.2.2.2.1,S q3.2.2.2.2.2.2.2.2.2.2.2.1,S q3.2.2.2.2.2.2.2.2.2.2.2.2.1,S q3.2.2.2.2.2.2.2.2.2.2.2.2.2.1,.vs q3.2.2.2.2.2.2.2.2.2.2.2.2.2.2.1.length (F zB q3.2.2.2.2.2.2.2.2.2.2.2.2.2.2.1),.vs q3.2.2.2.2.2.2.2.2.2.2.2.2.2.2.2.length (F zI q3.2.2.2.2.2.2.2.2.2.2.2.2.2.2.2)])],[]⟩) (Sum.elim (fun q8=>(.ret,⟨[(6,B false)],[],[]⟩)) (fun q9=>(.exit 0,⟨[(1,I n),(2,I m),(3,.ptr 1003 0)],[(1003,.box 107 [oP qg p.a,oP qg p.b,B p.comments])],[]⟩))) [(1003,1003),(1008,1008)] hB h (fun y5 t h=> ?_) (fun q h=> ?_)
 ·unfold Zh at h;refine z.c0.g ?_;refine zo h (fun _ h=> ?_) (fun _ h=> ?_)
  ·refine z.b.I.g ?_;refine Z5 h (fun v6 _ h=> ?_);refine z.b3.e6.c6.d0.b3.g ?_;refine zl h (fun _=>slices_Contains_Attr_ok) (fun v7 _ h=> ?_);refine z.c7.g ?_;refine zo h (fun _ h=> ?_) (fun _ h=> ?_)
   ·refine z.i4.g ?_;exact zq [] hB h
   refine z.d2.g ?_;exact zt [(1003,1003),(1008,1008)] hB h
  refine z.s.g ?_;exact zq [(1003,1003)] hB h
 rcases q with q8|q9
 ·dsimp only [Sum.elim] at h ⊢
  refine z.o.g ?_;apply za [] hB h
 dsimp only [Sum.elim] at h ⊢
 refine z.a.a.b3.b.E.g ?_;refine zl h (fun _=>(alike_pair_kids_ok @hrec)) (fun v10 _ h=> ?_);refine z.e.g ?_;apply za [] hB h
theorem alike_pair_nodes_n_ok: ∀ (fuel:Nat) {p:Zf} {n:Int} {m:Int} {r:Bool} (h:qd fuel p n m=some r),XSpec Tryz.prog 63 [.agg (c_TPair p),I n,I m] [] (B r) [] []:=by
 intro fuel
 induction fuel with
 |zero=>intro p n m r h;cases h
 |succ fuel ih=>
  intro p n m r h
  refine alike_pair_nodes_F_ok (frec:=qd fuel) ?_ h;exact @ih
theorem alike_pair_nodes_ok {p:Zf}{n:Int}{m:Int}{r:Bool}(h:Jq p n m=some r):XSpec Tryz.prog 63 [.agg (c_TPair p),I n,I m] [] (B r) [] []:=by
 obtain ⟨fuel,h⟩:=lim_some h;exact alike_pair_nodes_n_ok fuel h
theorem alike_Nodes_ok {a:(Option qv)}{n:Int}{b:(Option qv)}{m:Int}{comments:Bool}{r:Bool}(h:ZR a n b m comments=some r):XSpec Tryz.prog 17 [oP qg a,I n,oP qg b,I m,B comments] [] (B r) [] []:=by
 unfold ZR at h;refine zf Tryz.hU Tryz.func17 (fun _ _ _ hB=> ?_);refine z.B.e5.g ?_;refine zb h (fun _ h=> ?_) (fun _ h=> ?_)
 ·refine z.Z.f4.W.W.k.g ?_;apply za [] hB h
 refine z.n.G.g ?_;refine zb h (fun _ h=> ?_) (fun _ h=> ?_)
 ·refine z.Z.f4.d3.g ?_;apply za [] hB h
 refine z.h7.g ?_;refine zl h (fun _=>doc_Doc_Len_ok) (fun v1 _ h=> ?_);refine z.n.b8.g ?_;refine zb h (fun _ h=> ?_) (fun _ h=> ?_)
 ·refine z.Z.f4.j.g ?_;apply za [] hB h
 refine z.h7.g ?_;refine zl h (fun _=>doc_Doc_Len_ok) (fun v2 _ h=> ?_);refine z.V.b8.g ?_;refine zo h (fun _ h=> ?_) (fun _ h=> ?_)
 ·refine z.Z.g ?_;apply za [] hB h
 refine z.a.a.k4.a.j0.g ?_;refine zl h (fun _=>alike_pair_nodes_ok) (fun v3 _ h=> ?_);refine z.e.g ?_;apply za [] hB h
theorem alike_Docs_ok {a:(Option qv)}{b:(Option qv)}{comments:Bool}{r:Bool}(h:alike_Docs a b comments=some r):XSpec Tryz.prog 57 [oP qg a,oP qg b,B comments] [] (B r) [] []:=by
 unfold alike_Docs at h;refine zf Tryz.hU Tryz.func57 (fun _ _ _ hB=> ?_);refine z.a.A.b.g ?_;refine zl h (fun _=>alike_Nodes_ok) (fun v1 _ h=> ?_);refine z.e.g ?_;apply za [] hB h
theorem JN {r:Bool}(h:qR=some r):XSpec Tryz.prog 15 [] [] (B r) [] []:=by
 unfold qR at h;refine zf Tryz.hU Tryz.func15 (fun _ _ _ hB=> ?_);refine z.b.i.b.g ?_;refine l_litb [60,97,32,120,61,39,49,39,32,121,61,39,50,39,47,62] ?_;refine l_frz 1006 ?_;refine zl h (fun _=>parse_Parse_ok) (fun v1 _ h=> ?_);refine z.b.i.b2.g ?_;refine l_litb [60,97,32,121,61,39,50,39,32,120,61,39,49,39,62,60,47,97,62] ?_;refine l_frz 1012 ?_;refine zl h (fun _=>parse_Parse_ok) (fun v2 _ h=> ?_);refine z.B.C.b2.g ?_;refine zb h (fun _ h=> ?_) (fun _ h=> ?_)
 ·refine z.a3.G.g ?_;refine zb h (fun _ h=> ?_) (fun _ h=> ?_)
  ·refine z.h7.g ?_;refine zl h (fun _=>alike_Docs_ok) (fun v3 _ h=> ?_);refine z.X.g ?_;apply za [] hB h
  refine z.c1.l.g ?_;apply za [] hB h
 refine z.c1.l.n.k.g ?_;apply za [] hB h
theorem doc_Doc_End_ok {d:(Option qv)}{n:Int}{r:Int}(h:JS d n=some r):XSpec Tryz.prog 19 [oP qg d,I n] [] (I r) [] []:=by
 unfold JS at h;refine zf Tryz.hU Tryz.func19 (fun _ _ _ hB=> ?_);refine z.p.a9.b.g ?_;refine zl h (fun _=>doc_Doc_has_ok) (fun v1 _ h=> ?_);refine z.c7.g ?_;refine zo h (fun _ h=> ?_) (fun _ h=> ?_)
 ·refine z.Z.g ?_;apply za [] hB h
 refine z.v.g ?_;refine l_deref h (fun v2 _ h=> ?_);refine z.a.T.g ?_;refine Z5 h (fun v3 _ h=> ?_);refine z.e.j6.g ?_;apply za [] hB h
theorem apostillelaw31_AlikeBelow_ok {s:Str}{t_:Str}{n:Int}{m:Int}{r:Bool}(h:Zk s t_ n m=some r):XSpec Tryz.prog 3 [.vs s.length (F cU s),.vs t_.length (F cU t_),I n,I m] [] (B r) [] []:=by
 unfold Zk at h;refine zf Tryz.hU Tryz.func3 (fun _ _ _ hB=> ?_);refine z.e2.b.g ?_;refine qW (fun q2=>(.normal,⟨[(0,.vs s.length (F cU s)),(1,.vs t_.length (F cU t_)),(2,I n),(3,I m),(25,B q2)],[],[]⟩)) h (fun t h=> ?_) (fun q2 h=> ?_)
 ·refine k_reg ?_;refine zl h (fun _=>JN) (fun v1 _ h=> ?_);refine z.h8.g ?_;refine zb h (fun _ h=> ?_) (fun _ h=> ?_)
  ·refine z.L.i1.g ?_;exact zm [] hB h
  refine z.c8.b8.h6.b0.F.h.F.h.g ?_;exact zm [] hB h
 refine f_t ?_;refine zo h (fun _ h=> ?_) (fun _ h=> ?_)
 ·refine z.b.g ?_;refine zl h (fun _=>JN) (fun v3 _ h=> ?_);refine z.i9.e.g ?_;apply za [] hB h
 refine z.v.g ?_;refine zl h (fun _=>parse_Parse_ok) (fun v4 _ h=> ?_);refine z.C.b2.g ?_;refine zl h (fun _=>parse_Parse_ok) (fun v5 _ h=> ?_);refine z.e2.b2.g ?_;refine qW (fun q7=>(.normal,⟨[(2,I n),(3,I m),(9,oP qg v4.1),(11,oP qg v5.1),(50,B q7)],[],[]⟩)) h (fun t h=> ?_) (fun q7 h=> ?_)
 ·refine z.B.f.g ?_;refine zb h (fun _ h=> ?_) (fun _ h=> ?_)
  ·refine z.L.k.W.k.g ?_;exact zm [] hB h
  refine z.n.G.g ?_;refine zb h (fun _ h=> ?_) (fun _ h=> ?_)
  ·refine z.L.i1.g ?_;exact zm [] hB h
  refine z.h7.c4.c4.g ?_;refine zl h (fun _=>alike_Nodes_ok) (fun v6 _ h=> ?_);refine z.c8.R.g ?_;exact zm [] hB h
 refine f_t ?_;refine zo h (fun _ h=> ?_) (fun _ h=> ?_)
 ·refine z.Z.g ?_;apply za [] hB h
 refine z.j0.g ?_;refine zj [(1,105301)] [] h (fun _=>doc_Doc_Kids_ok) (fun v8 _ h=> ?_);refine z.a.a.g ?_;refine zj [(1,105601)] [] h (fun _=>doc_Doc_Kids_ok) (fun v9 _ h=> ?_);refine l_to [(105301,105301),(105601,105601)] ⟨[(2,I n),(3,I m),(9,oP qg v4.1),(11,oP qg v5.1),(53,.sl 105301 0 v8.length),(56,.sl 105601 0 v9.length)],[(105301,.row 3 1 0 (F cI v8)),(105601,.row 3 1 0 (F cI v9))],[]⟩ hB ?_;refine z.e2.w.g ?_;refine qW (fun q12=>(.normal,⟨[(9,oP qg v4.1),(11,oP qg v5.1),(13,.sl 105301 0 v8.length),(14,.sl 105601 0 v9.length),(74,B q12)],[(105301,.row 3 1 0 (F cI v8)),(105601,.row 3 1 0 (F cI v9))],[]⟩)) h (fun t h=> ?_) (fun q12 h=> ?_)
 ·refine z.B.F.o0.f.g ?_;refine zb h (fun _ h=> ?_) (fun _ h=> ?_)
  ·refine z.L.l.j.j.g ?_;exact zm [(105301,105301),(105601,105601)] hB h
  refine z.h7.g ?_;refine zl h (fun _=>doc_Doc_End_ok) (fun v10 _ h=> ?_);refine z.h7.e4.h.g ?_;refine zl h (fun _=>doc_Doc_End_ok) (fun v11 _ h=> ?_);refine l_to [(105301,105301),(105601,105601)] ⟨[(3,I m),(9,oP qg v4.1),(11,oP qg v5.1),(13,.sl 105301 0 v8.length),(14,.sl 105601 0 v9.length),(62,B false),(67,I (w64 (v10-n))),(70,I v11)],[(105301,.row 3 1 0 (F cI v8)),(105601,.row 3 1 0 (F cI v9))],[]⟩ hB ?_;refine z.c8.b8.e4.h.g ?_;exact zm [(105301,105301),(105601,105601)] hB h
 refine f_t ?_;refine zo h (fun _ h=> ?_) (fun _ h=> ?_)
 ·refine z.Z.g ?_;apply za [] hB h
 refine z.d6.c.h4.g ?_;refine zS (fun y13=>⟨[(9,oP qg v4.1),(11,oP qg v5.1),(13,.sl 105301 0 v8.length),(14,.sl 105601 0 v9.length),(76,I (v8.length:Int)),(77,I y13)],[(105301,.row 3 1 0 (F cI v8)),(105601,.row 3 1 0 (F cI v9))],[]⟩) (Sum.elim (fun q17=>(.ret,⟨[(8,B false)],[],[]⟩)) (fun q18=>(.exit 0,⟨[],[],[]⟩))) [(105301,105301),(105601,105601)] hB h (fun y13 t h=> ?_) (fun q h=> ?_)
 ·unfold z8 at h;refine z.c0.g ?_;refine zo h (fun _ h=> ?_) (fun _ h=> ?_)
  ·refine z.a9.c.I.g ?_;refine Z6 [] (.q 0 (.q 1 (.q 2 (.q 3 (.q 4 (.q 5 (.q 6 (.q 7 (.q 8 (.q 9 (.e 10 (.q 11 .done)))))))))))) hm ?_;refine z.x.j1.j1.g ?_;refine Zb h (fun v14 ev14 h=> ?_);refine gq ?_;refine n_ldr0 ev14 ?_;refine z.x.j1.j1.g ?_;refine Zb h (fun v15 ev15 h=> ?_);refine gq ?_;refine n_ldr0 ev15 ?_;refine ge ?_;refine ZV h (fun _=>alike_Nodes_ok) (fun v16 _ h=> ?_);refine z.P.e7.r7.m.g ?_;refine zo h (fun _ h=> ?_) (fun _ h=> ?_)
   ·refine z.i4.g ?_;exact zq [] hB h
   refine z.d2.g ?_;exact zt [(105301,105301),(105601,105601)] hB h
  refine z.s.g ?_;exact zq [] hB h
 rcases q with q17|q18
 ·dsimp only [Sum.elim] at h ⊢
  refine z.o.g ?_;apply za [] hB h
 dsimp only [Sum.elim] at h ⊢
 refine z.U.E.g ?_;apply za [] hB h
end Go.Proofs.YtojbjdcflgeibaaGreatDoor
