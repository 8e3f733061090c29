/- WALKS, printed by aw.py: that the program's functions compute the plain ones. Conditions: none. -/
import Derived.Test.YtojbjdcflgeibaaGreatDoorQWalk8
set_option linter.unusedVariables false
set_option linter.unusedSimpArgs false
set_option maxRecDepth 20000
set_option maxHeartbeats 4000000
namespace Go.Proofs.YtojbjdcflgeibaaGreatDoor
open Go Go.Abs W G
theorem ident_names_ok {a:zO}{r:Bool}(h:ident_names a=some r):XSpec Tryz.prog 141 [.agg (qu a)] [] (B r) [] []:=by
 unfold ident_names at h;refine zd Tryz.hU Tryz.func141 (fun _ _ _ hB=> ?_);refine z.e.W.h5.b4.l3.c.g ?_;refine zn h (fun _ h=> ?_) (fun _ h=> ?_)
 ·refine z.l9.W.h5.g ?_;apply zb [] hB h
 refine z.a.W.h5.I.g ?_;refine zc h (fun _ h=> ?_) (fun _ h=> ?_)
 ·refine z.r.h6.g ?_;refine zc h (fun _ h=> ?_) (fun _ h=> ?_)
  ·refine z.b9.f5.o.r.f5.o.g ?_;apply zb [] hB h
  refine z.r.f8.h6.g ?_;refine zc h (fun _ h=> ?_) (fun _ h=> ?_)
  ·refine z.b9.f5.o.g ?_;apply zb [] hB h
  refine z.b9.f8.h6.g ?_;apply zb [] hB h
 refine z.c3.c5.m.i4.g ?_;apply zb [] hB h
theorem ident_Index_add_s1_ok {u1:Int}{u2:(Option Zb)}{u3:(List (Str×Int))}{r:Bool×(List (Str×Int))}(h:Zs u1 u2 u3=some r):XSpec Tryz.prog 82 [.ptr 74000101 0,I u1] [(74000101,.box 86 [oP ZN u2,.mp 74000102]),(74000102,.map (MP kS (fun v=>I v) u3))] (B r.1) [(74000101,.box 86 [oP ZN u2,.mp 74000102]),(74000102,.map (MP kS (fun v=>I v) r.2))] []:=by
 unfold Zs at h;refine zd Tryz.hU Tryz.func82 (fun _ _ _ hB=> ?_);refine z.i3.e9.g ?_;refine zm h (fun _=>QK) (fun v1 _ h=> ?_);refine z.e6.p4.g ?_;refine zH (fun y2=>⟨[(0,.ptr 74000101 0),(1,I u1),(15,.vs v1.Attrs.length (F qu v1.Attrs)),(16,I (v1.Attrs.length:Int)),(17,I y2.1)],[(74000101,.box 86 [oP ZN u2,.mp 74000102]),(74000102,.map (MP kS (fun v=>I v) y2.2))],[]⟩) (Sum.elim (fun q5=>(.ret,⟨[(4,B false)],[(74000101,.box 86 [oP ZN u2,.mp 74000102]),(74000102,.map (MP kS (fun v=>I v) q5))],[]⟩)) (fun q6=>(.exit 0,⟨[],[(74000101,.box 86 [oP ZN u2,.mp 74000102]),(74000102,.map (MP kS (fun v=>I v) q6))],[]⟩))) [(74000101,74000101),(74000102,74000102)] hB h (fun y2 t h=> ?_) (fun q h=> ?_)
 ·unfold qe at h;refine z.b8.g ?_;refine zn h (fun _ h=> ?_) (fun _ h=> ?_)
  ·refine z.c.a4.g ?_;refine QH h (fun v3 _ h=> ?_);refine z.d5.c.H.f4.f3.d5.g ?_;refine zm h (fun _=>ident_names_ok) (fun v4 _ h=> ?_);refine z.d3.g ?_;refine zn h (fun _ h=> ?_) (fun _ h=> ?_)
   ·refine z.q6.P.k.g ?_;exact zu [(74000101,74000101),(74000102,74000102)] hB h
   refine z.H.d8.g ?_;refine ZH [] (.q 0 (.q 1 (.q 2 (.q 3 (.q 4 (.q 5 (.q 6 (.q 7 (.q 8 (.q 9 (.q 10 (.q 11 .done)))))))))))) hm ?_;refine z.d.n4.e8.g ?_;refine n_mget keyS (ev:=(fun v=>I v)) (m:=y2.2) (k:=v3.Value) 0 ?_;refine z.e.b.j3.m1.d.m1.d.s1.d.s1.K.g ?_;refine zn h (fun _ h=> ?_) (fun _ h=> ?_)
   ·refine z.a1.a6.g ?_;exact zr [(74000101,74000101),(74000102,74000102)] hB h
   refine z.I.g ?_;refine ZH [7] (.q 0 (.q 1 (.q 2 (.q 3 (.q 4 (.q 5 (.q 6 (.e 7 .done)))))))) hm ?_;refine z.D.e2.n4.e8.g ?_;refine n_mupd keyS (ev:=(fun v=>I v)) (m:=y2.2) (k:=v3.Value) u1 ?_;refine z.e1.d9.g ?_;exact zu [(74000101,74000101),(74000102,74000102)] hB h
  refine z.k.g ?_;exact zr [(74000101,74000101),(74000102,74000102)] hB h
 rcases q with q5|q6
 ·dsimp only [Sum.elim] at h ⊢
  refine z.a1.g ?_;apply zb [(74000101,74000101),(74000102,74000102)] hB h
 dsimp only [Sum.elim] at h ⊢
 refine z.b2.P.g ?_;apply zb [(74000101,74000101),(74000102,74000102)] hB h
theorem ident_Of_ok {d:(Option Zb)}{r:(Option ZV)×Int}(h:zae d=some r):XSpec Tryz.prog 47 [oP ZN d] [] (.tup [oP c_TIndex r.1,I r.2]) [] []:=by
 unfold zae at h;refine zd Tryz.hU Tryz.func47 (fun _ _ _ hB=> ?_);refine z.e.p3.G.t.g ?_;refine zn h (fun _ h=> ?_) (fun _ h=> ?_)
 ·refine z.Q.g ?_;apply k_retN [] hB h
 refine z.a9.G.l3.l0.s0.y.g ?_;refine zm h (fun _=>doc_Doc_Len_ok) (fun v1 _ h=> ?_);refine z.p0.g ?_;refine zH (fun y2=>⟨[(4,.ptr 1011 0),(16,I v1),(17,I y2.1)],[(1011,.box 86 [oP ZN d,.mp 1009]),(1009,.map (MP kS (fun v=>I v) y2.2))],[]⟩) (Sum.elim (fun q4=>(.ret,⟨[(2,.pl (.pointer none)),(3,I 9)],[],[]⟩)) (fun q5=>(.exit 0,⟨[(4,.ptr 1011 0)],[(1011,.box 86 [oP ZN d,.mp 1009]),(1009,.map (MP kS (fun v=>I v) q5))],[]⟩))) [(1011,1011),(1009,1009)] hB h (fun y2 t h=> ?_) (fun q h=> ?_)
 ·unfold Qm at h;refine z.b8.g ?_;refine zn h (fun _ h=> ?_) (fun _ h=> ?_)
  ·refine z.p.k7.g ?_;refine zi [(74000101,1011),(74000102,1009)] [1011,1009] h (fun _=>ident_Index_add_s1_ok) (fun v3 _ h=> ?_);refine z.d3.g ?_;refine zn h (fun _ h=> ?_) (fun _ h=> ?_)
   ·refine z.F.t.g ?_;exact zr [] hB h
   refine z.e3.g ?_;exact zu [(1011,1011),(1009,1009)] hB h
  refine z.k.g ?_;exact zr [(1011,1011),(1009,1009)] hB h
 rcases q with q4|q5
 ·dsimp only [Sum.elim] at h ⊢
  refine z.a1.g ?_;apply k_retN [] hB h
 dsimp only [Sum.elim] at h ⊢
 refine z.a3.i9.g ?_;refine f_frzm (m:=q5) 1009 ?_;refine f_frz 1011 ?_;apply zb [] hB h
theorem stringslite_CutSuffix_ok {s:Str}{suffix:Str}{r:Str×Bool}(h:QD s suffix=some r):XSpec Tryz.prog 235 [S s,S suffix] [] (.tup [S r.1,B r.2]) [] []:=by
 unfold QD at h;refine zd Tryz.hU Tryz.func235 (fun _ _ _ hB=> ?_);refine z.i.b4.t.g ?_;refine zm h (fun _=>zac) (fun v1 _ h=> ?_);refine z.d3.g ?_;refine zn h (fun _ h=> ?_) (fun _ h=> ?_)
 ·refine z.e5.b.g ?_;apply zb [] hB h
 refine z.S.V.a.V.f0.g ?_;refine Zr h (fun v2 _ h=> ?_);refine z.a3.g ?_;apply zb [] hB h
theorem strings_CutSuffix_ok {s:Str}{suffix:Str}{r:Str×Bool}(h:QL s suffix=some r):XSpec Tryz.prog 194 [S s,S suffix] [] (.tup [S r.1,B r.2]) [] []:=by
 unfold QL at h;refine zd Tryz.hU Tryz.func194 (fun _ _ _ hB=> ?_);refine z.p.t.g ?_;refine zm h (fun _=>stringslite_CutSuffix_ok) (fun v1 _ h=> ?_);refine z.a3.n1.g ?_;apply zb [] hB h
theorem resolve_between_ok {s:Str}{ahead:Str}{behind:Str}{r:Str×Bool}(h:ZL s ahead behind=some r):XSpec Tryz.prog 142 [S s,S ahead,S behind] [] (.tup [S r.1,B r.2]) [] []:=by
 unfold ZL at h;refine zd Tryz.hU Tryz.func142 (fun _ _ _ hB=> ?_);refine z.p.t.g ?_;refine zm h (fun _=>Z1) (fun v1 _ h=> ?_);refine z.p.M.g ?_;refine zm h (fun _=>strings_CutSuffix_ok) (fun v2 _ h=> ?_);refine z.a.p.M.g ?_;refine zc h (fun _ h=> ?_) (fun _ h=> ?_)
 ·refine z.a3.c7.r.g ?_;apply zb [] hB h
 refine z.a3.l4.c5.g ?_;apply zb [] hB h
theorem resolve_called_ok {uri:Str}{r:Str×Bool×Bool}(h:Qx uri=some r):XSpec Tryz.prog 83 [S uri] [] (.tup [S r.1,B r.2.1,B r.2.2]) [] []:=by
 unfold Qx at h;refine zd Tryz.hU Tryz.func83 (fun _ _ _ hB=> ?_);refine z.c.b4.A.t.g ?_;refine QM (e:=cS) [[39],[34]] ?_;refine z.e6.g ?_;refine zH (fun y1=>⟨[(0,S uri),(11,.sl 1011 0 ([[39],[34]].length)),(12,I ([[39],[34]].length:Int)),(13,I y1)],[(1011,.row 9 1 0 (F cS [[39],[34]]))],[]⟩) (Sum.elim (fun q7=>(.ret,⟨[(2,S q7.1),(3,B true),(4,B q7.2)],[],[]⟩)) (fun q8=>(.exit 0,⟨[(0,S uri)],[],[]⟩))) [(1011,1011)] hB h (fun y1 t h=> ?_) (fun q h=> ?_)
 ·unfold ZF at h;refine z.b8.g ?_;refine zn h (fun _ h=> ?_) (fun _ h=> ?_)
  ·refine z.c.a4.g ?_;refine Jg h (fun v2 ev2 h=> ?_);refine Jc ev2 ?_;refine z.p.g ?_;refine l_cat h (fun v3 _ h=> ?_);refine l_move ?_;refine l_cat h (fun v4 _ h=> ?_);refine zm h (fun _=>resolve_between_ok) (fun v5 _ h=> ?_);refine z.e.x.M.g ?_;refine zn h (fun _ h=> ?_) (fun _ h=> ?_)
   ·refine z.i.g ?_;refine zm h (fun _=>ZU) (fun v6 _ h=> ?_);refine z.F.A.A.g ?_;exact zr [] hB h
   refine z.e3.g ?_;exact zu [(1011,1011)] hB h
  refine z.k.g ?_;exact zr [] hB h
 rcases q with q7|q8
 ·dsimp only [Sum.elim] at h ⊢
  refine z.a1.g ?_;apply zb [] hB h
 dsimp only [Sum.elim] at h ⊢
 refine z.i9.g ?_;refine zm h (fun _=>Z1) (fun v9 _ h=> ?_);refine z.a.p.M.g ?_;refine zc h (fun _ h=> ?_) (fun _ h=> ?_)
 ·refine z.f.g ?_;refine zm h (fun _=>ZU) (fun v10 _ h=> ?_);refine z.a3.A.c7.g ?_;apply zb [] hB h
 refine z.a3.A.e7.g ?_;apply zb [] hB h
theorem ident_Index_Find_ok {x:(Option ZV)}{id:Str}{r:Int×Bool}(h:Q7 x id=some r):XSpec Tryz.prog 84 [oP c_TIndex x,S id] [] (.tup [I r.1,B r.2]) [] []:=by
 unfold Q7 at h;refine zd Tryz.hU Tryz.func84 (fun _ _ _ hB=> ?_);refine z.e.p3.G.t.g ?_;refine zn h (fun _ h=> ?_) (fun _ h=> ?_)
 ·refine z.Q.g ?_;apply zb [] hB h
 refine z.y.g ?_;refine l_deref h (fun v1 _ h=> ?_);refine z.a.a2.g ?_;refine l_vget keyS (ev:=(fun v=>I v)) (m:=v1.ids) (k:=id) 0 ?_;refine z.a3.p.M.g ?_;apply zb [] hB h
theorem resolve_Node_ok {x:(Option ZV)}{uri:Str}{r:Int×Bool×Int}(h:Jr x uri=some r):XSpec Tryz.prog 48 [oP c_TIndex x,S uri] [] (.tup [I r.1,B r.2.1,I r.2.2]) [] []:=by
 unfold Jr at h;refine zd Tryz.hU Tryz.func48 (fun _ _ _ hB=> ?_);refine z.j.p3.b.c9.b4.A.t.g ?_;refine zn h (fun _ h=> ?_) (fun _ h=> ?_)
 ·refine z.F.A.t.g ?_;apply zb [] hB h
 refine z.j.W.b.g ?_;refine zn h (fun _ h=> ?_) (fun _ h=> ?_)
 ·refine z.F.A.t.g ?_;apply zb [] hB h
 refine z.j.W.b.g ?_;refine zn h (fun _ h=> ?_) (fun _ h=> ?_)
 ·refine z.F.A.t.g ?_;apply zb [] hB h
 refine z.b.h1.Y.g ?_;refine zm h (fun _=>resolve_called_ok) (fun v1 _ h=> ?_);refine z.p.A.k6.k8.g ?_;refine zm h (fun _=>ident_Index_Find_ok) (fun v2 _ h=> ?_);refine z.h0.G.M.g ?_;refine zc h (fun _ h=> ?_) (fun _ h=> ?_)
 ·refine z.e5.t.i5.n.g ?_;apply zb [] hB h
 refine z.d7.j9.f.g ?_;refine zn h (fun _ h=> ?_) (fun _ h=> ?_)
 ·refine z.e5.t.g ?_;apply zb [] hB h
 refine z.a3.A.f0.g ?_;apply zb [] hB h
theorem zaA {r:Bool}(h:Zt=some r):XSpec Tryz.prog 45 [] [] (B r) [] []:=by
 unfold Zt at h;refine zd Tryz.hU Tryz.func45 (fun _ _ _ hB=> ?_);refine z.c.j.c.g ?_;refine l_litb [60,97,32,73,100,61,39,120,39,47,62] ?_;refine l_frz 1009 ?_;refine zm h (fun _=>parse_Parse_ok) (fun v1 _ h=> ?_);refine z.x.M.g ?_;refine zm h (fun _=>ident_Of_ok) (fun v2 _ h=> ?_);refine z.x.M.g ?_;refine zm h (fun _=>resolve_Node_ok) (fun v3 _ h=> ?_);refine z.w.x.A.k6.k8.g ?_;refine zc h (fun _ h=> ?_) (fun _ h=> ?_)
 ·refine z.b3.v.g ?_;refine zc h (fun _ h=> ?_) (fun _ h=> ?_)
  ·refine z.b3.v.g ?_;refine zc h (fun _ h=> ?_) (fun _ h=> ?_)
   ·refine z.b9.v.g ?_;apply zb [] hB h
   refine z.c3.n.g ?_;apply zb [] hB h
  refine z.c3.n.q.n.g ?_;apply zb [] hB h
 refine z.c3.n.q.n.q.n.g ?_;apply zb [] hB h
theorem nodes_Tree_ok {d:(Option Zb)}{n:Int}{comments:Bool}{r:(List zV)}(h:JW d n comments=some r):XSpec Tryz.prog 87 [oP ZN d,I n,B comments] [] (.sl 1 0 r.length) [(1,.row 54 3 0 (F Zw r))] []:=by
 unfold JW at h;refine zd Tryz.hU Tryz.func87 (fun _ _ _ hB=> ?_);refine z.j4.e9.j.c.g ?_;refine k_nilrow (te:=54) (t:=7) 3007 3 ?_;refine zH (fun y1=>⟨[(0,oP ZN d),(1,I n),(2,B comments),(7,.sl 3007 0 y1.2.length),(8,I y1.1)],[(3007,.row 54 3 0 (F Zw y1.2))],[]⟩) (fun q11=>(.exit 0,⟨[(7,.sl 3007 0 q11.length)],[(3007,.row 54 3 0 (F Zw q11))],[]⟩)) [(3007,3007)] hB h (fun y1 t h=> ?_) (fun q11 h=> ?_)
 ·unfold JJ at h;refine z.H.H.g ?_;refine qW (fun q3=>(.normal,⟨[(0,oP ZN d),(1,I n),(2,B comments),(7,.sl 3007 0 y1.2.length),(8,I y1.1),(18,B q3)],[(3007,.row 54 3 0 (F Zw y1.2))],[]⟩)) h (fun t h=> ?_) (fun q3 h=> ?_)
  ·refine z.w.h.g ?_;refine zc h (fun _ h=> ?_) (fun _ h=> ?_)
   ·refine z.f.r.r.g ?_;refine zm h (fun _=>doc_Doc_End_ok) (fun v2 _ h=> ?_);refine z.O.c6.g ?_;exact zp [(3007,3007)] hB h
   refine z.b6.c5.m.g ?_;exact zp [(3007,3007)] hB h
  refine f_t ?_;refine zn h (fun _ h=> ?_) (fun _ h=> ?_)
  ·refine z.H.H.a4.g ?_;refine qW (fun q5=>(.normal,⟨[(0,oP ZN d),(1,I n),(2,B comments),(7,.sl 3007 0 y1.2.length),(8,I y1.1),(29,B q5)],[(3007,.row 54 3 0 (F Zw y1.2))],[]⟩)) h (fun t h=> ?_) (fun q5 h=> ?_)
   ·refine z.h0.h.g ?_;refine zc h (fun _ h=> ?_) (fun _ h=> ?_)
    ·refine z.f.r.g ?_;refine zm h (fun _=>QK) (fun v4 _ h=> ?_);refine z.O.c6.p4.b5.g ?_;exact zp [(3007,3007)] hB h
    refine z.b6.c5.m.g ?_;exact zp [(3007,3007)] hB h
   refine f_t ?_;refine zn h (fun _ h=> ?_) (fun _ h=> ?_)
   ·refine z.c2.h.P.k.g ?_;exact zu [(3007,3007)] hB h
   refine z.l0.f0.g ?_;refine QM (e:=Zw) [(zV.mk y1.1 0 0)] ?_;refine Q9 h (fun v6 _ h=> ?_);refine z.a.C.j.g ?_;refine zi [(1,103801)] [] h (fun _=>point_Spaces_ok) (fun v7 _ h=> ?_);refine Q9 h (fun v8 _ h=> ?_);refine z.j5.g ?_;refine zi [(1,104201)] [] h (fun _=>point_Marks_ok) (fun v9 _ h=> ?_);refine Q9 h (fun v10 _ h=> ?_);refine z.c2.e4.E.g ?_;exact zu [(3007,3007)] hB h
  refine z.k.g ?_;exact zr [(3007,3007)] hB h
 refine z.l.i9.g ?_;apply zb [(3007,1)] hB h
theorem resolve_Set_ok {x:(Option ZV)}{uri:Str}{r:(List zV)×Int}(h:JZ x uri=some r):XSpec Tryz.prog 50 [oP c_TIndex x,S uri] [] (.tup [.sl 1 0 r.1.length,I r.2]) [(1,.row 54 3 0 (F Zw r.1))] []:=by
 unfold JZ at h;refine zd Tryz.hU Tryz.func50 (fun _ _ _ hB=> ?_);refine z.p.t.g ?_;refine zm h (fun _=>resolve_Node_ok) (fun v1 _ h=> ?_);refine z.u.G.A.k6.k8.g ?_;refine zn h (fun _ h=> ?_) (fun _ h=> ?_)
 ·refine z.e5.b.g ?_;refine f_nilrow (te:=54) (t:=4) 3004 3 ?_;apply zb [(3004,1)] hB h
 refine z.y.g ?_;refine l_deref h (fun v2 _ h=> ?_);refine z.j5.a2.g ?_;refine zi [(1,102501)] [] h (fun _=>nodes_Tree_ok) (fun v3 _ h=> ?_);refine z.a3.g ?_;apply zb [(102501,1)] hB h
theorem zaC {b:Str}{id:Str}{r:Bool}(h:qX b id=some r):XSpec Tryz.prog 11 [.vs b.length (F cU b),S id] [] (B r) [] []:=by
 unfold qX at h;refine zd Tryz.hU Tryz.func11 (fun _ _ _ hB=> ?_);refine z.f2.c.g ?_;refine qW (fun q2=>(.normal,⟨[(0,.vs b.length (F cU b)),(1,S id),(26,B q2)],[],[]⟩)) h (fun t h=> ?_) (fun q2 h=> ?_)
 ·refine k_reg ?_;refine zm h (fun _=>zaA) (fun v1 _ h=> ?_);refine z.h0.g ?_;refine zc h (fun _ h=> ?_) (fun _ h=> ?_)
  ·refine z.O.j2.o.g ?_;exact zp [] hB h
  refine z.q.c6.N.f.g ?_;refine zc h (fun _ h=> ?_) (fun _ h=> ?_)
  ·refine z.O.o.g ?_;exact zp [] hB h
  refine z.b6.c6.V.f.g ?_;exact zp [] hB h
 refine f_t ?_;refine zn h (fun _ h=> ?_) (fun _ h=> ?_)
 ·refine z.c.g ?_;refine zm h (fun _=>zaA) (fun v3 _ h=> ?_);refine z.l9.g ?_;apply zb [] hB h
 refine z.y.g ?_;refine zm h (fun _=>parse_Parse_ok) (fun v4 _ h=> ?_);refine z.x.M.g ?_;refine zm h (fun _=>ident_Of_ok) (fun v5 _ h=> ?_);refine z.f2.M.g ?_;refine qW (fun q6=>(.normal,⟨[(1,S id),(7,oP c_TIndex v5.1),(43,B q6)],[],[]⟩)) h (fun t h=> ?_) (fun q6 h=> ?_)
 ·refine z.w.h.g ?_;refine zc h (fun _ h=> ?_) (fun _ h=> ?_)
  ·refine z.O.n.g ?_;exact zp [] hB h
  refine z.b6.v.g ?_;exact zp [] hB h
 refine f_t ?_;refine zn h (fun _ h=> ?_) (fun _ h=> ?_)
 ·refine z.l9.p3.b.g ?_;apply zb [] hB h
 refine z.f0.g ?_;refine l_cat h (fun v7 _ h=> ?_);refine zi [(1,105001)] [] h (fun _=>resolve_Set_ok) (fun v8 _ h=> ?_);refine z.p.M.g ?_;refine l_cat h (fun v9 _ h=> ?_);refine l_cat h (fun v10 _ h=> ?_);refine zi [(1,105801)] [] h (fun _=>resolve_Set_ok) (fun v11 _ h=> ?_);refine z.u.G.M.g ?_;refine zn h (fun _ h=> ?_) (fun _ h=> ?_)
 ·refine k_seq ?_;refine qW (fun q12=>(.normal,⟨[(4,B q12)],[],[]⟩)) h (fun t h=> ?_) (fun q12 h=> ?_)
  ·refine z.w.N.h.g ?_;refine zc h (fun _ h=> ?_) (fun _ h=> ?_)
   ·refine z.r.v.g ?_;refine zc h (fun _ h=> ?_) (fun _ h=> ?_)
    ·refine z.E.c7.f5.n.g ?_;exact zp [] hB h
    refine z.E.c7.f8.W.f.g ?_;exact zp [] hB h
   refine z.E.e7.m.g ?_;exact zp [] hB h
  refine z.n2.l5.d1.g ?_;apply zb [] hB h
 refine z.H.d8.g ?_;refine qW (fun q14=>(.normal,⟨[(7,oP c_TIndex v5.1),(9,.sl 105001 0 v8.1.length),(11,.sl 105801 0 v11.1.length),(12,I v11.2),(85,B q14)],[(105001,.row 54 3 0 (F Zw v8.1)),(105801,.row 54 3 0 (F Zw v11.1))],[]⟩)) h (fun t h=> ?_) (fun q14 h=> ?_)
 ·refine z.a.W.h.g ?_;refine zc h (fun _ h=> ?_) (fun _ h=> ?_)
  ·refine z.O.i4.g ?_;exact zp [(105001,105001),(105801,105801)] hB h
  refine z.r.c6.V.f.g ?_;refine zc h (fun _ h=> ?_) (fun _ h=> ?_)
  ·refine z.f.g ?_;refine Zr h (fun v13 _ h=> ?_);refine z.b6.f5.W.b5.g ?_;exact zp [(105001,105001),(105801,105801)] hB h
  refine z.b6.f8.o.g ?_;exact zp [(105001,105001),(105801,105801)] hB h
 refine f_t ?_;refine zn h (fun _ h=> ?_) (fun _ h=> ?_)
 ·refine z.a6.g ?_;apply zb [] hB h
 refine z.e6.e9.I.g ?_;refine zH (fun y15=>⟨[(7,oP c_TIndex v5.1),(9,.sl 105001 0 v8.1.length),(11,.sl 105801 0 v11.1.length),(12,I v11.2),(13,I y15.1),(87,I (v11.1.length:Int)),(88,I y15.2)],[(105001,.row 54 3 0 (F Zw v8.1)),(105801,.row 54 3 0 (F Zw v11.1))],[]⟩) (Sum.elim (fun q23=>(.ret,⟨[(4,B false)],[],[]⟩)) (fun q24=>(.exit 0,⟨[(9,.sl 105001 0 v8.1.length),(12,I v11.2),(13,I q24)],[(105001,.row 54 3 0 (F Zw v8.1))],[]⟩))) [(105001,105001),(105801,105801)] hB h (fun y15 t h=> ?_) (fun q h=> ?_)
 ·unfold zC at h;refine z.b8.g ?_;refine zn h (fun _ h=> ?_) (fun _ h=> ?_)
  ·refine z.f2.k7.g ?_;refine qW (fun q18=>(.normal,⟨[(7,oP c_TIndex v5.1),(9,.sl 105001 0 v8.1.length),(11,.sl 105801 0 v11.1.length),(12,I v11.2),(13,I y15.1),(14,I y15.2),(87,I (v11.1.length:Int)),(88,I y15.2),(105,B q18)],[(105001,.row 54 3 0 (F Zw v8.1)),(105801,.row 54 3 0 (F Zw v11.1))],[]⟩)) h (fun t h=> ?_) (fun q18 h=> ?_)
   ·refine ZH [] (.q 0 (.q 1 (.q 2 (.q 3 (.q 4 (.q 5 (.q 6 (.q 7 (.q 8 (.q 9 (.q 10 (.q 11 (.q 12 (.q 13 (.q 14 .done))))))))))))))) hm ?_;refine z.K.c0.d.m8.f9.g ?_;refine QC h (fun _ h=> ?_) (fun _ h=> ?_)
    ·refine z.X.X.h2.g ?_;refine qc h (fun v16 ev16 h=> ?_);refine z.s.g ?_;refine Jf ev16 ?_;refine z.X.X.s.g ?_;refine qc h (fun v17 ev17 h=> ?_);refine z.s.g ?_;refine Jf ev17 ?_;refine z.s.g ?_;refine n_eqs (k:= .i64) (zV.ints v16) (zV.ints v17) hs54 he54 ?_;refine z.a0.d.g ?_;exact zp [(105001,105001),(105801,105801)] hB h
    refine z.d9.o7.o1.d2.d2.g ?_;exact zp [(105001,105001),(105801,105801)] hB h
   refine f_t ?_;refine zn h (fun _ h=> ?_) (fun _ h=> ?_)
   ·refine z.q6.P.k.j.d6.b.g ?_;exact zu [(105001,105001),(105801,105801)] hB h
   refine z.d8.g ?_;refine ZH [] (.q 0 (.q 1 (.q 2 (.q 3 (.q 4 (.q 5 (.q 6 (.q 7 (.q 8 (.q 9 (.q 10 (.q 11 (.q 12 (.q 13 (.q 14 (.q 15 (.e 16 (.q 17 (.q 18 (.q 19 .done)))))))))))))))))))) hm ?_;refine z.f9.g ?_;refine qc h (fun v19 ev19 h=> ?_);refine z.d.k0.g ?_;refine ZQ ev19 ?_;refine z.K.c0.d.g ?_;refine QC h (fun _ h=> ?_) (fun _ h=> ?_)
   ·refine z.j6.e0.d1.k2.a5.D.m9.d2.d2.g ?_;exact zr [] hB h
   refine z.X.h2.g ?_;refine n_deref h (fun v20 _ h=> ?_);refine z.X.X.c1.U.g ?_;refine qc h (fun v21 ev21 h=> ?_);refine z.U.g ?_;refine n_ldr0 ev21 ?_;refine z.L.g ?_;refine n_call h (fun _=>QK) (fun v22 _ h=> ?_);refine z.d1.o8.c0.s.t4.s.g ?_;refine zn h (fun _ h=> ?_) (fun _ h=> ?_)
   ·refine z.j6.g ?_;exact zr [] hB h
   refine z.e3.g ?_;exact zu [(105001,105001),(105801,105801)] hB h
  refine z.k.g ?_;exact zr [(105001,105001)] hB h
 rcases q with q23|q24
 ·dsimp only [Sum.elim] at h ⊢
  refine z.a1.g ?_;apply zb [] hB h
 dsimp only [Sum.elim] at h ⊢
 refine z.w.i9.g ?_;refine zc h (fun _ h=> ?_) (fun _ h=> ?_)
 ·refine z.b9.c6.N.f.r.g ?_;apply zb [] hB h
 refine z.c3.m.g ?_;apply zb [] hB h
end Go.Proofs.YtojbjdcflgeibaaGreatDoor
