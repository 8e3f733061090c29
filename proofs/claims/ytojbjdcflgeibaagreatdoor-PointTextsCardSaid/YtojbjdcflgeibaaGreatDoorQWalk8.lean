/-
  WALKS, printed by aw.py: that the program's functions compute the plain ones. Conditions: none.
-/
import Derived.Test.YtojbjdcflgeibaaGreatDoorQWalk7
set_option linter.unusedVariables false
set_option linter.unusedSimpArgs false
set_option maxRecDepth 20000
set_option maxHeartbeats 4000000
namespace Go.Proofs.YtojbjdcflgeibaaGreatDoor
open Go Go.Abs W G
theorem point_some_ok {n:Int}{part:Int}{many:Int}{r:(List zK)}(h:point_some n part many=some r):XSpec Tryz.prog 77 [I n,I part,I many] [] (.sl 1 0 r.length) [(1,.row 54 3 0 (F Jt r))] []:=by
  unfold point_some at h;refine zf Tryz.hU Tryz.func77 (fun _ _ _ hB=> ?_);refine z.m3.i.j4.o.c.g ?_;refine k_nilrow (te:=54) (t:=7) 3007 3 ?_;refine zE (fun y1=>⟨[(0,I n),(1,I part),(7,.sl 3007 0 y1.2.length),(9,I many),(10,I y1.1)],[(3007,.row 54 3 0 (F Jt y1.2))],[]⟩) (fun q3=>(.exit 0,⟨[(7,.sl 3007 0 q3.length)],[(3007,.row 54 3 0 (F Jt q3))],[]⟩)) [(3007,3007)] hB h (fun y1 t h=> ?_) (fun q3 h=> ?_)
  · unfold point_some_b1 at h;refine z.b6.g ?_;refine zo h (fun _ h=> ?_) (fun _ h=> ?_)
    · refine z.l1.h5.o.k8.g ?_;refine Qz (e:=Jt) [(zK.mk n part y1.1)] ?_;refine QN h (fun v2 _ h=> ?_);refine z.c9.y.g ?_;exact zt [(3007,3007)] hB h
    refine z.l.g ?_;exact zr [(3007,3007)] hB h
  refine z.h.k3.g ?_;apply za [(3007,1)] hB h
theorem point_Spaces_ok {d:(Option qt)}{n:Int}{r:(List zK)}(h:point_Spaces d n=some r):XSpec Tryz.prog 31 [oP Zw d,I n] [] (.sl 1 0 r.length) [(1,.row 54 3 0 (F Jt r))] []:=by
  unfold point_Spaces at h;refine zf Tryz.hU Tryz.func31 (fun _ _ _ hB=> ?_);refine z.a.k1.g ?_;refine zh [(1,100801)] [] h (fun _=>space_Scope_ok) (fun v1 _ h=> ?_);refine l_len ?_;refine zh [(1,101001)] [] h (fun _=>point_some_ok) (fun v2 _ h=> ?_);refine z.h.g ?_;apply za [(101001,1)] hB h
theorem point_Marks_ok {d:(Option qt)}{n:Int}{r:(List zK)}(h:point_Marks d n=some r):XSpec Tryz.prog 32 [oP Zw d,I n] [] (.sl 1 0 r.length) [(1,.row 54 3 0 (F Jt r))] []:=by
  unfold point_Marks at h;refine zf Tryz.hU Tryz.func32 (fun _ _ _ hB=> ?_);refine z.a.k1.g ?_;refine zn h (fun _=>Zv) (fun v1 _ h=> ?_);refine z.K.p7.g ?_;refine zh [(1,101101)] [] h (fun _=>point_some_ok) (fun v2 _ h=> ?_);refine z.h.g ?_;apply za [(101101,1)] hB h
theorem point_All_ok {d:(Option qt)}{r:(List zK)}(h:point_All d=some r):XSpec Tryz.prog 35 [oP Zw d] [] (.sl 1 0 r.length) [(1,.row 54 3 0 (F Jt r))] []:=by
  unfold point_All at h;refine zf Tryz.hU Tryz.func35 (fun _ _ _ hB=> ?_);refine z.f1.o.c.g ?_;refine zn h (fun _=>doc_Doc_Len_ok) (fun v1 _ h=> ?_);refine z.p1.g ?_;refine k_nilrow (te:=54) (t:=3) 3003 3 ?_;refine zE (fun y2=>⟨[(0,oP Zw d),(3,.sl 3003 0 y2.2.length),(6,I v1),(7,I y2.1)],[(3003,.row 54 3 0 (F Jt y2.2))],[]⟩) (fun q8=>(.exit 0,⟨[(3,.sl 3003 0 q8.length)],[(3003,.row 54 3 0 (F Jt q8))],[]⟩)) [(3003,3003)] hB h (fun y2 t h=> ?_) (fun q8 h=> ?_)
  · unfold point_All_b1 at h;refine z.b6.g ?_;refine zo h (fun _ h=> ?_) (fun _ h=> ?_)
    · refine z.l1.T.k8.g ?_;refine Qz (e:=Jt) [(zK.mk y2.1 0 0)] ?_;refine QN h (fun v3 _ h=> ?_);refine z.a.x.o.g ?_;refine zh [(1,101801)] [] h (fun _=>point_Spaces_ok) (fun v4 _ h=> ?_);refine QN h (fun v5 _ h=> ?_);refine z.k7.g ?_;refine zh [(1,102201)] [] h (fun _=>point_Marks_ok) (fun v6 _ h=> ?_);refine QN h (fun v7 _ h=> ?_);refine z.c9.y.g ?_;exact zt [(3003,3003)] hB h
    refine z.l.g ?_;exact zr [(3003,3003)] hB h
  refine z.h.k3.g ?_;apply za [(3003,1)] hB h
theorem point_Has_ok {d:(Option qt)}{p:zK}{r:Bool}(h:point_Has d p=some r):XSpec Tryz.prog 40 [oP Zw d,.agg (Jt p)] [] (B r) [] []:=by
  unfold point_Has at h;refine zf Tryz.hU Tryz.func40 (fun _ _ _ hB=> ?_);refine z.e1.l8.c.g ?_;refine qP (fun q2=>(.normal,⟨[(0,oP Zw d),(3,.ptr 1003 0),(19,B q2)],[(1003,.box 54 [I p.N,I p.Part,I p.I])],[]⟩)) h (fun t h=> ?_) (fun q2 h=> ?_)
  · refine Zt [] (.q 0 (.q 1 (.q 2 (.q 3 (.q 4 (.q 5 (.q 6 (.e 7 (.q 8 (.q 9 (.q 10 (.q 11 (.q 12 (.q 13 (.q 14 (.done)))))))))))))))) hm ?_;refine z.F.b1.b.m7.g ?_;refine Qp h (fun _ h=> ?_) (fun _ h=> ?_)
    · refine z.j3.V.r9.V.A.n3.V.g ?_;exact zp [(1003,1003)] hB h
    refine z.G.n2.b4.o3.f3.g ?_;refine n_call h (fun _=>doc_Doc_Len_ok) (fun v1 _ h=> ?_);refine z.F.m9.b1.t.g ?_;refine Qp h (fun _ h=> ?_) (fun _ h=> ?_)
    · refine z.j3.V.g ?_;exact zp [(1003,1003)] hB h
    refine z.o9.b1.b4.o3.f3.g ?_;exact zp [(1003,1003)] hB h
  refine f_t ?_;refine zo h (fun _ h=> ?_) (fun _ h=> ?_)
  · refine z.Y.g ?_;apply za [] hB h
  refine z.i4.c.m3.c6.d8.g ?_;refine zo h (fun _ h=> ?_) (fun _ h=> ?_)
  · refine z.p.h.e5.c6.g ?_;apply za [] hB h
  refine z.i4.c.g ?_;refine zo h (fun _ h=> ?_) (fun _ h=> ?_)
  · refine k_seq ?_;refine Zt [] (.q 0 (.q 1 (.q 2 (.q 3 (.q 4 (.e 5 (.q 6 (.q 7 (.q 8 (.done)))))))))) hm ?_;refine z.A.l5.l9.F.m7.g ?_;refine zJ [(1,103401)] [] h (fun _=>space_Scope_ok) (fun v3 _ h=> ?_);refine z.p.j5.h6.m2.b.b1.b.m8.b.g ?_;apply za [] hB h
  refine z.i4.c.g ?_;refine zo h (fun _ h=> ?_) (fun _ h=> ?_)
  · refine k_seq ?_;refine Zt [] (.q 0 (.q 1 (.q 2 (.q 3 (.q 4 (.e 5 (.q 6 (.q 7 (.q 8 (.q 9 (.done))))))))))) hm ?_;refine z.A.l5.l9.F.m7.g ?_;refine n_call h (fun _=>Zv) (fun v4 _ h=> ?_);refine z.p.j5.h6.m2.b.b1.b.m8.b.t3.b.g ?_;apply za [] hB h
  refine z.a0.f2.R.g ?_;apply za [] hB h
theorem point_Text_ok {d:(Option qt)}{p:zK}{r:Str}(h:QK d p=some r):XSpec Tryz.prog 34 [oP Zw d,.agg (Jt p)] [] (S r) [] []:=by
  unfold QK at h;refine zf Tryz.hU Tryz.func34 (fun _ _ _ hB=> ?_);refine z.d6.L.l8.c.g ?_;refine zn h (fun _=>point_Has_ok) (fun v1 _ h=> ?_);refine z.d3.g ?_;refine zo h (fun _ h=> ?_) (fun _ h=> ?_)
  · refine z.Y.g ?_;apply za [] hB h
  refine z.M.B.g ?_;refine zn h (fun _=>Zv) (fun v2 _ h=> ?_);refine z.O.d2.d1.g ?_;refine qP (Sum.elim (fun q6=>(.ret,⟨[(4,S q6)],[],[]⟩)) (fun q7=>(.normal,⟨[(0,oP Zw d),(3,.ptr 1003 0)],[(1003,.box 54 [I p.N,I p.Part,I p.I])],[]⟩))) h (fun t h=> ?_) (fun q h=> ?_)
  · refine z.i4.c6.c1.g ?_;refine zo h (fun _ h=> ?_) (fun _ h=> ?_)
    · refine k_seq ?_;refine Zt [] (.q 0 (.q 1 (.q 2 (.q 4 (.q 5 (.e 3 (.q 6 (.q 7 (.q 8 (.q 9 (.done))))))))))) hm ?_;refine z.A.m7.l5.l9.F.g ?_;refine zJ [(1,102401)] [] h (fun _=>space_Scope_ok) (fun v3 _ h=> ?_);refine gq ?_;refine zU h (fun v4 ev4 h=> ?_);refine z.b.j8.g ?_;refine ZD ev4 ?_;refine z.u.j5.h6.m2.b.g ?_;exact zp [] hB h
    refine z.i4.c6.g ?_;refine zo h (fun _ h=> ?_) (fun _ h=> ?_)
    · refine z.M.c6.g ?_;refine Qd h (fun v5 _ h=> ?_);refine z.u.h.M.g ?_;exact zp [] hB h
    refine z.s.c6.g ?_;refine zc h (fun _ h=> ?_) (fun _ h=> ?_)
    · refine z.o.f6.e5.E.g ?_;refine zo h (fun _ h=> ?_) (fun _ h=> ?_)
      · refine z.u.h.c6.g ?_;exact zp [] hB h
      refine z.e4.R.g ?_;exact zp [(1003,1003)] hB h
    refine z.e4.R.f8.o.f7.j.g ?_;exact zp [(1003,1003)] hB h
  rcases q with q6|q7
  · dsimp only [Sum.elim] at h ⊢
    refine f_tr ?_;apply za [] hB h
  dsimp only [Sum.elim] at h ⊢
  refine z.i2.c6.O.e.d1.c.d0.g ?_;refine k_npcell (b:=1006) (j:=0) 1006 0 ?_;refine k_nilcell (te:=5) (b1:=1006) (j:=1) 13061 1 ?_;refine zE (fun y8=>⟨[(0,oP Zw d),(3,.ptr 1003 0),(6,.ptr 1006 0),(7,I y8.1)],[(1003,.box 54 [I p.N,I p.Part,I p.I]),(1006,.box 102 [.nptr y8.2.1 1006 0,.sl 13061 0 y8.2.2.length]),(13061,.row 5 1 0 (F cU y8.2.2))],[]⟩) (fun q12=>(.exit 1,⟨[(6,.ptr 1006 0)],[(1006,.box 102 [.nptr q12.1 1006 0,.sl 13061 0 q12.2.length]),(13061,.row 5 1 0 (F cU q12.2))],[]⟩)) [(1003,1003),(1006,1006),(13061,13061)] hB h (fun y8 t h=> ?_) (fun q12 h=> ?_)
  · unfold ZK at h;refine z.M.m0.g ?_;refine zn h (fun _=>doc_Doc_End_ok) (fun v9 _ h=> ?_);refine z.q.g ?_;refine zo h (fun _ h=> ?_) (fun _ h=> ?_)
    · refine z.i.a1.g ?_;refine zn h (fun _=>Zv) (fun v10 _ h=> ?_);refine z.q.c6.d2.d1.g ?_;refine zo h (fun _ h=> ?_) (fun _ h=> ?_)
      · refine z.M.n8.g ?_;refine zh [(4000101,1006),(4000102,13061)] [1006,13061] h (fun _=>zi) (fun v11 _ h=> ?_);refine z.l2.c4.g ?_;exact zt [(1003,1003),(1006,1006),(13061,13061)] hB h
      refine z.l2.R.g ?_;exact zt [(1003,1003),(1006,1006),(13061,13061)] hB h
    refine z.l.g ?_;exact zr [(1006,1006),(13061,13061)] hB h
  refine z.c.P.g ?_;refine zh [(6000101,1006),(6000102,13061)] [1006,13061] h (fun _=>zF) (fun v13 _ h=> ?_);refine z.h.g ?_;apply za [] hB h
theorem zap {r:Bool}(h:Zi=some r):XSpec Tryz.prog 28 [] [] (B r) [] []:=by
  unfold Zi at h;refine zf Tryz.hU Tryz.func28 (fun _ _ _ hB=> ?_);refine z.c.o.c.g ?_;refine l_litb [60,97,32,98,61,39,49,39,47,62] ?_;refine l_frz 1004 ?_;refine zn h (fun _=>parse_Parse_ok) (fun v1 _ h=> ?_);refine z.s.C.b7.g ?_;refine zc h (fun _ h=> ?_) (fun _ h=> ?_)
  · refine z.f.g ?_;refine zh [(1,101301)] [] h (fun _=>point_All_ok) (fun v2 _ h=> ?_);refine z.b2.c7.K.a8.g ?_;refine zc h (fun _ h=> ?_) (fun _ h=> ?_)
    · refine z.j1.f.g ?_;refine zn h (fun _=>point_Text_ok) (fun v3 _ h=> ?_);refine z.a5.b3.a8.g ?_;apply za [] hB h
    refine z.c3.n.g ?_;apply za [] hB h
  refine z.c3.i1.n.g ?_;apply za [] hB h
theorem apostillelaw10_PointTexts_ok {b:(List UInt8)}{n:Int}{r:Bool}(h:ZA b n=some r):XSpec Tryz.prog 7 [.vs b.length (F cU b),I n] [] (B r) [] []:=by
  unfold ZA at h;refine zf Tryz.hU Tryz.func7 (fun _ _ _ hB=> ?_);refine z.e1.c.g ?_;refine qP (fun q2=>(.normal,⟨[(0,.vs b.length (F cU b)),(1,I n),(17,B q2)],[],[]⟩)) h (fun t h=> ?_) (fun q2 h=> ?_)
  · refine k_reg ?_;refine zn h (fun _=>zap) (fun v1 _ h=> ?_);refine z.h3.g ?_;refine zc h (fun _ h=> ?_) (fun _ h=> ?_)
    · refine z.N.j.g ?_;exact zp [] hB h
    refine z.c2.c7.K.f.g ?_;exact zp [] hB h
  refine f_t ?_;refine zo h (fun _ h=> ?_) (fun _ h=> ?_)
  · refine z.c.g ?_;refine zn h (fun _=>zap) (fun v3 _ h=> ?_);refine z.h9.h.g ?_;apply za [] hB h
  refine z.B.g ?_;refine zn h (fun _=>parse_Parse_ok) (fun v4 _ h=> ?_);refine z.e1.b7.g ?_;refine qP (fun q7=>(.normal,⟨[(1,I n),(5,oP Zw v4.1),(6,I v4.2),(42,B q7)],[],[]⟩)) h (fun t h=> ?_) (fun q7 h=> ?_)
  · refine z.s.k.g ?_;refine zc h (fun _ h=> ?_) (fun _ h=> ?_)
    · refine z.N.b9.I.I.m.g ?_;exact zp [] hB h
    refine z.r.v.g ?_;refine zc h (fun _ h=> ?_) (fun _ h=> ?_)
    · refine z.N.b9.d7.g ?_;exact zp [] hB h
    refine z.f.w.g ?_;refine zn h (fun _=>doc_Doc_Len_ok) (fun v5 _ h=> ?_);refine z.r.c7.g ?_;refine zc h (fun _ h=> ?_) (fun _ h=> ?_)
    · refine z.N.b9.n.g ?_;exact zp [] hB h
    refine z.f.w.g ?_;refine zn h (fun _=>Zv) (fun v6 _ h=> ?_);refine l_to [] ⟨[(1,I n),(5,oP Zw v4.1),(6,I v4.2),(36,B false),(39,.agg (zl v6))],[],[]⟩ hB ?_;refine z.c2.c7.p7.a8.g ?_;exact zp [] hB h
  refine f_t ?_;refine zo h (fun _ h=> ?_) (fun _ h=> ?_)
  · refine k_seq ?_;refine qP (fun q8=>(.normal,⟨[(4,B q8)],[],[]⟩)) h (fun t h=> ?_) (fun q8 h=> ?_)
    · refine z.s.k.g ?_;refine zc h (fun _ h=> ?_) (fun _ h=> ?_)
      · refine z.y.f6.m.g ?_;exact zp [] hB h
      refine z.y.f7.r8.f.g ?_;exact zp [] hB h
    refine z.h9.j5.d0.g ?_;apply za [] hB h
  refine z.k1.H.g ?_;refine zh [(1,105101)] [] h (fun _=>doc_Doc_Kids_ok) (fun v9 _ h=> ?_);refine z.e9.L.g ?_;refine zE (fun y10=>⟨[(1,I n),(5,oP Zw v4.1),(7,S y10.1),(8,.sl 105101 0 v9.length),(53,I (v9.length:Int)),(54,I y10.2)],[(105101,.row 3 1 0 (F cI v9))],[]⟩) (fun q19=>(.exit 0,⟨[(1,I n),(5,oP Zw v4.1),(7,S q19)],[],[]⟩)) [(105101,105101)] hB h (fun y10 t h=> ?_) (fun q19 h=> ?_)
  · unfold zR at h;refine z.b6.g ?_;refine zo h (fun _ h=> ?_) (fun _ h=> ?_)
    · refine z.a.T.k8.g ?_;refine QO h (fun v11 ev11 h=> ?_);refine Qu ev11 ?_;refine zn h (fun _=>Zv) (fun v12 _ h=> ?_);refine z.s.c6.d2.d1.g ?_;refine zc h (fun _ h=> ?_) (fun _ h=> ?_)
      · refine z.h5.i0.j.g ?_;refine QO h (fun v13 ev13 h=> ?_);refine Qu ev13 ?_;refine l_build ?_;refine zn h (fun _=>point_Text_ok) (fun v14 _ h=> ?_);refine l_cat h (fun v15 _ h=> ?_);refine z.c9.y.g ?_;exact zt [(105101,105101)] hB h
      refine z.d5.e5.E.g ?_;refine zo h (fun _ h=> ?_) (fun _ h=> ?_)
      · refine z.h5.g ?_;refine QO h (fun v16 ev16 h=> ?_);refine Qu ev16 ?_;refine l_build ?_;refine zn h (fun _=>point_Text_ok) (fun v17 _ h=> ?_);refine l_cat h (fun v18 _ h=> ?_);refine z.c9.y.g ?_;exact zt [(105101,105101)] hB h
      refine z.e6.g ?_;exact zt [(105101,105101)] hB h
    refine z.l.g ?_;exact zr [] hB h
  refine z.l1.i.P.g ?_;refine zn h (fun _=>point_Text_ok) (fun v20 _ h=> ?_);refine z.h.b3.a.g ?_;apply za [] hB h
end Go.Proofs.YtojbjdcflgeibaaGreatDoor
