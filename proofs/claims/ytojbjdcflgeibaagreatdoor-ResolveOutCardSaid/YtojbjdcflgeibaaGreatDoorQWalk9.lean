/-
  WALKS, printed by aw.py: that the program's functions compute the plain ones. Conditions: none.
-/
import Derived.Test.YtojbjdcflgeibaaGreatDoorQWalk8
set_option linter.unusedVariables false
set_option linter.unusedSimpArgs false
set_option maxRecDepth 20000
set_option maxHeartbeats 4000000
namespace Go.Proofs.YtojbjdcflgeibaaGreatDoor
open Go Go.Abs W G
theorem ident_names_ok {a:zJ}{r:Bool}(h:ident_names a=some r):XSpec Tryz.prog 141 [.agg (qb a)] [] (B r) [] []:=by
  unfold ident_names at h;refine zc Tryz.hU Tryz.func141 (fun _ _ _ hB=> ?_);refine z.e.a1.h2.b3.l2.c.g ?_;refine zo h (fun _ h=> ?_) (fun _ h=> ?_)
  · refine z.m2.a1.h2.g ?_;apply za [] hB h
  refine z.a.a1.h2.K.g ?_;refine zb h (fun _ h=> ?_) (fun _ h=> ?_)
  · refine z.s.h3.g ?_;refine zb h (fun _ h=> ?_) (fun _ h=> ?_)
    · refine z.b5.h1.o.s.h1.o.g ?_;apply za [] hB h
    refine z.s.h6.h3.g ?_;refine zb h (fun _ h=> ?_) (fun _ h=> ?_)
    · refine z.b5.h1.o.g ?_;apply za [] hB h
    refine z.b5.h6.h3.g ?_;apply za [] hB h
  refine z.c0.c2.n.j0.g ?_;apply za [] hB h
theorem ident_Index_add_s1_ok {u1:Int}{u2:(Option Zy)}{u3:(List (Str×Int))}{r:Bool×(List (Str×Int))}(h:qT u1 u2 u3=some r):XSpec Tryz.prog 82 [.ptr 74000101 0,I u1] [(74000101,.box 86 [oP Zl u2,.mp 74000102]),(74000102,.map (MP kS (fun v=>I v) u3))] (B r.1) [(74000101,.box 86 [oP Zl u2,.mp 74000102]),(74000102,.map (MP kS (fun v=>I v) r.2))] []:=by
  unfold qT at h;refine zc Tryz.hU Tryz.func82 (fun _ _ _ hB=> ?_);refine z.i4.f2.g ?_;refine zm h (fun _=>Jm) (fun v1 _ h=> ?_);refine z.f0.p0.g ?_;refine zE (fun y2=>⟨[(0,.ptr 74000101 0),(1,I u1),(15,.vs v1.Attrs.length (F qb v1.Attrs)),(16,I (v1.Attrs.length:Int)),(17,I y2.1)],[(74000101,.box 86 [oP Zl u2,.mp 74000102]),(74000102,.map (MP kS (fun v=>I v) y2.2))],[]⟩) (Sum.elim (fun q5=>(.ret,⟨[(4,B false)],[(74000101,.box 86 [oP Zl u2,.mp 74000102]),(74000102,.map (MP kS (fun v=>I v) q5))],[]⟩)) (fun q6=>(.exit 0,⟨[],[(74000101,.box 86 [oP Zl u2,.mp 74000102]),(74000102,.map (MP kS (fun v=>I v) q6))],[]⟩))) [(74000101,74000101),(74000102,74000102)] hB h (fun y2 t h=> ?_) (fun q h=> ?_)
  · unfold zQ at h;refine z.b7.g ?_;refine zo h (fun _ h=> ?_) (fun _ h=> ?_)
    · refine z.c.D.g ?_;refine Ql h (fun v3 _ h=> ?_);refine z.d3.c.J.e1.e9.d3.g ?_;refine zm h (fun _=>ident_names_ok) (fun v4 _ h=> ?_);refine z.d0.g ?_;refine zo h (fun _ h=> ?_) (fun _ h=> ?_)
      · refine z.r9.R.k.g ?_;exact zt [(74000101,74000101),(74000102,74000102)] hB h
      refine z.J.e7.g ?_;refine Zr [] (.q 0 (.q 1 (.q 2 (.q 3 (.q 4 (.q 5 (.q 6 (.q 7 (.q 8 (.q 9 (.q 10 (.q 11 (.done))))))))))))) hm ?_;refine z.d.n0.e4.g ?_;refine n_mget keyS (ev:=(fun v=>I v)) (m:=y2.2) (k:=v3.Value) 0 ?_;refine z.e.b.j2.l8.d.l8.d.s0.d.s0.L.g ?_;refine zo h (fun _ h=> ?_) (fun _ h=> ?_)
      · refine z.a3.a9.g ?_;exact zr [(74000101,74000101),(74000102,74000102)] hB h
      refine z.K.g ?_;refine Zr [7] (.q 0 (.q 1 (.q 2 (.q 3 (.q 4 (.q 5 (.q 6 (.e 7 (.done))))))))) hm ?_;refine z.F.d7.n0.e4.g ?_;refine n_mupd keyS (ev:=(fun v=>I v)) (m:=y2.2) (k:=v3.Value) u1 ?_;refine z.d5.d9.g ?_;exact zt [(74000101,74000101),(74000102,74000102)] hB h
    refine z.k.g ?_;exact zr [(74000101,74000101),(74000102,74000102)] hB h
  rcases q with q5|q6
  · dsimp only [Sum.elim] at h ⊢
    refine z.a3.g ?_;apply za [(74000101,74000101),(74000102,74000102)] hB h
  dsimp only [Sum.elim] at h ⊢
  refine z.b2.R.g ?_;apply za [(74000101,74000101),(74000102,74000102)] hB h
theorem ident_Of_ok {d:(Option Zy)}{r:(Option Jy)×Int}(h:J1 d=some r):XSpec Tryz.prog 47 [oP Zl d] [] (.tup [oP c_TIndex r.1,I r.2]) [] []:=by
  unfold J1 at h;refine zc Tryz.hU Tryz.func47 (fun _ _ _ hB=> ?_);refine z.e.p7.I.r.g ?_;refine zo h (fun _ h=> ?_) (fun _ h=> ?_)
  · refine z.O.g ?_;apply k_retN [] hB h
  refine z.a8.I.l2.k6.r8.y.g ?_;refine zm h (fun _=>doc_Doc_Len_ok) (fun v1 _ h=> ?_);refine z.o7.g ?_;refine zE (fun y2=>⟨[(4,.ptr 1011 0),(16,I v1),(17,I y2.1)],[(1011,.box 86 [oP Zl d,.mp 1009]),(1009,.map (MP kS (fun v=>I v) y2.2))],[]⟩) (Sum.elim (fun q4=>(.ret,⟨[(2,.pl (.pointer none)),(3,I 9)],[],[]⟩)) (fun q5=>(.exit 0,⟨[(4,.ptr 1011 0)],[(1011,.box 86 [oP Zl d,.mp 1009]),(1009,.map (MP kS (fun v=>I v) q5))],[]⟩))) [(1011,1011),(1009,1009)] hB h (fun y2 t h=> ?_) (fun q h=> ?_)
  · unfold Z4 at h;refine z.b7.g ?_;refine zo h (fun _ h=> ?_) (fun _ h=> ?_)
    · refine z.q.b.D.g ?_;refine zh [(74000101,1011),(74000102,1009)] [1011,1009] h (fun _=>ident_Index_add_s1_ok) (fun v3 _ h=> ?_);refine z.d0.g ?_;refine zo h (fun _ h=> ?_) (fun _ h=> ?_)
      · refine z.E.r.g ?_;exact zr [] hB h
      refine z.e5.g ?_;exact zt [(1011,1011),(1009,1009)] hB h
    refine z.k.g ?_;exact zr [(1011,1011),(1009,1009)] hB h
  rcases q with q4|q5
  · dsimp only [Sum.elim] at h ⊢
    refine z.a3.g ?_;apply k_retN [] hB h
  dsimp only [Sum.elim] at h ⊢
  refine z.a0.j4.g ?_;refine f_frzm (m:=q5) 1009 ?_;refine f_frz 1011 ?_;apply za [] hB h
theorem stringslite_CutSuffix_ok {s:Str}{suffix:Str}{r:Str×Bool}(h:Qi s suffix=some r):XSpec Tryz.prog 235 [S s,S suffix] [] (.tup [S r.1,B r.2]) [] []:=by
  unfold Qi at h;refine zc Tryz.hU Tryz.func235 (fun _ _ _ hB=> ?_);refine z.h.b3.r.g ?_;refine zm h (fun _=>JX) (fun v1 _ h=> ?_);refine z.d0.g ?_;refine zo h (fun _ h=> ?_) (fun _ h=> ?_)
  · refine z.e3.b.g ?_;apply za [] hB h
  refine z.T.V.a.V.f3.g ?_;refine Za h (fun v2 _ h=> ?_);refine z.a0.g ?_;apply za [] hB h
theorem strings_CutSuffix_ok {s:Str}{suffix:Str}{r:Str×Bool}(h:Qr s suffix=some r):XSpec Tryz.prog 194 [S s,S suffix] [] (.tup [S r.1,B r.2]) [] []:=by
  unfold Qr at h;refine zc Tryz.hU Tryz.func194 (fun _ _ _ hB=> ?_);refine z.q.r.g ?_;refine zm h (fun _=>stringslite_CutSuffix_ok) (fun v1 _ h=> ?_);refine z.a0.m8.g ?_;apply za [] hB h
theorem resolve_between_ok {s:Str}{ahead:Str}{behind:Str}{r:Str×Bool}(h:Zk s ahead behind=some r):XSpec Tryz.prog 142 [S s,S ahead,S behind] [] (.tup [S r.1,B r.2]) [] []:=by
  unfold Zk at h;refine zc Tryz.hU Tryz.func142 (fun _ _ _ hB=> ?_);refine z.q.r.g ?_;refine zm h (fun _=>ZE) (fun v1 _ h=> ?_);refine z.q.P.g ?_;refine zm h (fun _=>strings_CutSuffix_ok) (fun v2 _ h=> ?_);refine z.a.q.P.g ?_;refine zb h (fun _ h=> ?_) (fun _ h=> ?_)
  · refine z.a0.d1.s.g ?_;apply za [] hB h
  refine z.a0.l3.c2.g ?_;apply za [] hB h
theorem resolve_called_ok {uri:Str}{r:Str×Bool×Bool}(h:Qa uri=some r):XSpec Tryz.prog 83 [S uri] [] (.tup [S r.1,B r.2.1,B r.2.2]) [] []:=by
  unfold Qa at h;refine zc Tryz.hU Tryz.func83 (fun _ _ _ hB=> ?_);refine z.c.b3.A.r.g ?_;refine Qq (e:=cS) [[39],[34]] ?_;refine z.f0.g ?_;refine zE (fun y1=>⟨[(0,S uri),(11,.sl 1011 0 ([[39],[34]].length)),(12,I ([[39],[34]].length:Int)),(13,I y1)],[(1011,.row 9 1 0 (F cS [[39],[34]]))],[]⟩) (Sum.elim (fun q7=>(.ret,⟨[(2,S q7.1),(3,B true),(4,B q7.2)],[],[]⟩)) (fun q8=>(.exit 0,⟨[(0,S uri)],[],[]⟩))) [(1011,1011)] hB h (fun y1 t h=> ?_) (fun q h=> ?_)
  · unfold Zh at h;refine z.b7.g ?_;refine zo h (fun _ h=> ?_) (fun _ h=> ?_)
    · refine z.c.D.g ?_;refine Q5 h (fun v2 ev2 h=> ?_);refine QN ev2 ?_;refine z.q.g ?_;refine l_cat h (fun v3 _ h=> ?_);refine l_move ?_;refine l_cat h (fun v4 _ h=> ?_);refine zm h (fun _=>resolve_between_ok) (fun v5 _ h=> ?_);refine z.e.w.P.g ?_;refine zo h (fun _ h=> ?_) (fun _ h=> ?_)
      · refine z.h.g ?_;refine zm h (fun _=>Zt) (fun v6 _ h=> ?_);refine z.E.A.A.g ?_;exact zr [] hB h
      refine z.e5.g ?_;exact zt [(1011,1011)] hB h
    refine z.k.g ?_;exact zr [] hB h
  rcases q with q7|q8
  · dsimp only [Sum.elim] at h ⊢
    refine z.a3.g ?_;apply za [] hB h
  dsimp only [Sum.elim] at h ⊢
  refine z.j4.g ?_;refine zm h (fun _=>ZE) (fun v9 _ h=> ?_);refine z.a.q.P.g ?_;refine zb h (fun _ h=> ?_) (fun _ h=> ?_)
  · refine z.f.g ?_;refine zm h (fun _=>Zt) (fun v10 _ h=> ?_);refine z.a0.A.d1.g ?_;apply za [] hB h
  refine z.a0.A.f1.g ?_;apply za [] hB h
theorem ident_Index_Find_ok {x:(Option Jy)}{id:Str}{r:Int×Bool}(h:JO x id=some r):XSpec Tryz.prog 84 [oP c_TIndex x,S id] [] (.tup [I r.1,B r.2]) [] []:=by
  unfold JO at h;refine zc Tryz.hU Tryz.func84 (fun _ _ _ hB=> ?_);refine z.e.p7.I.r.g ?_;refine zo h (fun _ h=> ?_) (fun _ h=> ?_)
  · refine z.O.g ?_;apply za [] hB h
  refine z.y.g ?_;refine l_deref h (fun v1 _ h=> ?_);refine z.a.Z.g ?_;refine l_vget keyS (ev:=(fun v=>I v)) (m:=v1.ids) (k:=id) 0 ?_;refine z.a0.q.P.g ?_;apply za [] hB h
theorem resolve_Node_ok {x:(Option Jy)}{uri:Str}{r:Int×Bool×Int}(h:Q8 x uri=some r):XSpec Tryz.prog 48 [oP c_TIndex x,S uri] [] (.tup [I r.1,B r.2.1,I r.2.2]) [] []:=by
  unfold Q8 at h;refine zc Tryz.hU Tryz.func48 (fun _ _ _ hB=> ?_);refine z.j.p7.b.c5.b3.A.r.g ?_;refine zo h (fun _ h=> ?_) (fun _ h=> ?_)
  · refine z.E.A.r.g ?_;apply za [] hB h
  refine z.j.a1.b.g ?_;refine zo h (fun _ h=> ?_) (fun _ h=> ?_)
  · refine z.E.A.r.g ?_;apply za [] hB h
  refine z.j.a1.b.g ?_;refine zo h (fun _ h=> ?_) (fun _ h=> ?_)
  · refine z.E.A.r.g ?_;apply za [] hB h
  refine z.b.f7.X.g ?_;refine zm h (fun _=>resolve_called_ok) (fun v1 _ h=> ?_);refine z.q.A.k3.k4.g ?_;refine zm h (fun _=>ident_Index_Find_ok) (fun v2 _ h=> ?_);refine z.f6.I.P.g ?_;refine zb h (fun _ h=> ?_) (fun _ h=> ?_)
  · refine z.e3.r.i5.m.g ?_;apply za [] hB h
  refine z.d4.j8.f.g ?_;refine zo h (fun _ h=> ?_) (fun _ h=> ?_)
  · refine z.e3.r.g ?_;apply za [] hB h
  refine z.a0.A.f3.g ?_;apply za [] hB h
theorem zae {r:Bool}(h:qU=some r):XSpec Tryz.prog 45 [] [] (B r) [] []:=by
  unfold qU at h;refine zc Tryz.hU Tryz.func45 (fun _ _ _ hB=> ?_);refine z.c.j.c.g ?_;refine l_litb [60,97,32,73,100,61,39,120,39,47,62] ?_;refine l_frz 1009 ?_;refine zm h (fun _=>parse_Parse_ok) (fun v1 _ h=> ?_);refine z.w.P.g ?_;refine zm h (fun _=>ident_Of_ok) (fun v2 _ h=> ?_);refine z.w.P.g ?_;refine zm h (fun _=>resolve_Node_ok) (fun v3 _ h=> ?_);refine z.v.w.A.k3.k4.g ?_;refine zb h (fun _ h=> ?_) (fun _ h=> ?_)
  · refine z.a4.u.g ?_;refine zb h (fun _ h=> ?_) (fun _ h=> ?_)
    · refine z.a4.u.g ?_;refine zb h (fun _ h=> ?_) (fun _ h=> ?_)
      · refine z.b5.u.g ?_;apply za [] hB h
      refine z.c0.m.g ?_;apply za [] hB h
    refine z.c0.m.p.m.g ?_;apply za [] hB h
  refine z.c0.m.p.m.p.m.g ?_;apply za [] hB h
theorem nodes_Tree_ok {d:(Option Zy)}{n:Int}{comments:Bool}{r:(List ZR)}(h:nodes_Tree d n comments=some r):XSpec Tryz.prog 87 [oP Zl d,I n,B comments] [] (.sl 1 0 r.length) [(1,.row 54 3 0 (F QS r))] []:=by
  unfold nodes_Tree at h;refine zc Tryz.hU Tryz.func87 (fun _ _ _ hB=> ?_);refine z.j3.f2.j.c.g ?_;refine k_nilrow (te:=54) (t:=7) 3007 3 ?_;refine zE (fun y1=>⟨[(0,oP Zl d),(1,I n),(2,B comments),(7,.sl 3007 0 y1.2.length),(8,I y1.1)],[(3007,.row 54 3 0 (F QS y1.2))],[]⟩) (fun q11=>(.exit 0,⟨[(7,.sl 3007 0 q11.length)],[(3007,.row 54 3 0 (F QS q11))],[]⟩)) [(3007,3007)] hB h (fun y1 t h=> ?_) (fun q11 h=> ?_)
  · unfold nodes_Tree_b1 at h;refine z.J.J.g ?_;refine qS (fun q3=>(.normal,⟨[(0,oP Zl d),(1,I n),(2,B comments),(7,.sl 3007 0 y1.2.length),(8,I y1.1),(18,B q3)],[(3007,.row 54 3 0 (F QS y1.2))],[]⟩)) h (fun t h=> ?_) (fun q3 h=> ?_)
    · refine z.v.i.g ?_;refine zb h (fun _ h=> ?_) (fun _ h=> ?_)
      · refine z.f.s.s.g ?_;refine zm h (fun _=>doc_Doc_End_ok) (fun v2 _ h=> ?_);refine z.M.c6.g ?_;exact zp [(3007,3007)] hB h
      refine z.c3.c2.n.g ?_;exact zp [(3007,3007)] hB h
    refine f_t ?_;refine zo h (fun _ h=> ?_) (fun _ h=> ?_)
    · refine z.J.J.D.g ?_;refine qS (fun q5=>(.normal,⟨[(0,oP Zl d),(1,I n),(2,B comments),(7,.sl 3007 0 y1.2.length),(8,I y1.1),(29,B q5)],[(3007,.row 54 3 0 (F QS y1.2))],[]⟩)) h (fun t h=> ?_) (fun q5 h=> ?_)
      · refine z.f6.i.g ?_;refine zb h (fun _ h=> ?_) (fun _ h=> ?_)
        · refine z.f.s.g ?_;refine zm h (fun _=>Jm) (fun v4 _ h=> ?_);refine z.M.c6.p0.b6.g ?_;exact zp [(3007,3007)] hB h
        refine z.c3.c2.n.g ?_;exact zp [(3007,3007)] hB h
      refine f_t ?_;refine zo h (fun _ h=> ?_) (fun _ h=> ?_)
      · refine z.b9.i.R.k.g ?_;exact zt [(3007,3007)] hB h
      refine z.k6.f3.g ?_;refine Qq (e:=QS) [(ZR.mk y1.1 0 0)] ?_;refine QO h (fun v6 _ h=> ?_);refine z.a.C.j.g ?_;refine zh [(1,103801)] [] h (fun _=>point_Spaces_ok) (fun v7 _ h=> ?_);refine QO h (fun v8 _ h=> ?_);refine z.j5.g ?_;refine zh [(1,104201)] [] h (fun _=>point_Marks_ok) (fun v9 _ h=> ?_);refine QO h (fun v10 _ h=> ?_);refine z.b9.d8.G.g ?_;exact zt [(3007,3007)] hB h
    refine z.k.g ?_;exact zr [(3007,3007)] hB h
  refine z.l.j4.g ?_;apply za [(3007,1)] hB h
theorem resolve_Set_ok {x:(Option Jy)}{uri:Str}{r:(List ZR)×Int}(h:zak x uri=some r):XSpec Tryz.prog 50 [oP c_TIndex x,S uri] [] (.tup [.sl 1 0 r.1.length,I r.2]) [(1,.row 54 3 0 (F QS r.1))] []:=by
  unfold zak at h;refine zc Tryz.hU Tryz.func50 (fun _ _ _ hB=> ?_);refine z.q.r.g ?_;refine zm h (fun _=>resolve_Node_ok) (fun v1 _ h=> ?_);refine z.t.I.A.k3.k4.g ?_;refine zo h (fun _ h=> ?_) (fun _ h=> ?_)
  · refine z.e3.b.g ?_;refine f_nilrow (te:=54) (t:=4) 3004 3 ?_;apply za [(3004,1)] hB h
  refine z.y.g ?_;refine l_deref h (fun v2 _ h=> ?_);refine z.j5.Z.g ?_;refine zh [(1,102501)] [] h (fun _=>nodes_Tree_ok) (fun v3 _ h=> ?_);refine z.a0.g ?_;apply za [(102501,1)] hB h
theorem apostillelaw22_ResolveOut_ok {b:(List UInt8)}{uri:Str}{r:Bool}(h:Zp b uri=some r):XSpec Tryz.prog 10 [.vs b.length (F cU b),S uri] [] (B r) [] []:=by
  unfold Zp at h;refine zc Tryz.hU Tryz.func10 (fun _ _ _ hB=> ?_);refine z.f8.c.g ?_;refine qS (fun q3=>(.normal,⟨[(0,.vs b.length (F cU b)),(1,S uri),(31,B q3)],[],[]⟩)) h (fun t h=> ?_) (fun q3 h=> ?_)
  · refine k_reg ?_;refine zm h (fun _=>zae) (fun v1 _ h=> ?_);refine z.f6.g ?_;refine zb h (fun _ h=> ?_) (fun _ h=> ?_)
    · refine z.M.h4.m.a4.h4.o.g ?_;exact zp [] hB h
    refine z.p.c6.Q.f.g ?_;refine zb h (fun _ h=> ?_) (fun _ h=> ?_)
    · refine z.M.h4.m.a4.o.g ?_;exact zp [] hB h
    refine z.p.c6.V.f.g ?_;refine zb h (fun _ h=> ?_) (fun _ h=> ?_)
    · refine z.M.h4.m.g ?_;exact zp [] hB h
    refine z.p.a1.f.g ?_;refine zb h (fun _ h=> ?_) (fun _ h=> ?_)
    · refine z.M.o.g ?_;exact zp [] hB h
    refine z.f.g ?_;refine Z1 h (fun v2 _ h=> ?_);refine z.c3.c6.g ?_;exact zp [] hB h
  refine f_t ?_;refine zo h (fun _ h=> ?_) (fun _ h=> ?_)
  · refine z.c.g ?_;refine zm h (fun _=>zae) (fun v4 _ h=> ?_);refine z.m2.g ?_;apply za [] hB h
  refine z.y.g ?_;refine zm h (fun _=>parse_Parse_ok) (fun v5 _ h=> ?_);refine z.w.P.g ?_;refine zm h (fun _=>ident_Of_ok) (fun v6 _ h=> ?_);refine z.q.P.g ?_;refine zh [(1,104601)] [] h (fun _=>resolve_Set_ok) (fun v7 _ h=> ?_);refine z.v.Q.w.P.g ?_;refine zb h (fun _ h=> ?_) (fun _ h=> ?_)
  · refine z.b5.u.g ?_;apply za [] hB h
  refine z.c0.m.g ?_;apply za [] hB h
end Go.Proofs.YtojbjdcflgeibaaGreatDoor
