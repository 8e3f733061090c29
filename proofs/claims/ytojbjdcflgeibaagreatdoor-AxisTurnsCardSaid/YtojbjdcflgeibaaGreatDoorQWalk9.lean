/- WALKS, printed by aw.py: that the program's functions compute the plain ones. Conditions: none. -/
import Derived.Test.YtojbjdcflgeibaaGreatDoorQWalk8
set_option linter.unusedVariables false
set_option linter.unusedSimpArgs false
set_option maxRecDepth 20000
set_option maxHeartbeats 4000000
namespace Go.Proofs.YtojbjdcflgeibaaGreatDoor
open Go Go.Abs W G
theorem axis_names_ok {r:(List Str)}(h:axis_names=some r):XSpec Tryz.prog 147 [] [] (.sl 1 0 r.length) [(1,.row 9 1 0 (F cS r))] []:=by
 unfold axis_names at h;refine zc Tryz.hU Tryz.func147 (fun _ _ _ hB=> ?_);refine z.c.o.c.g ?_;refine Z6 (e:=cS) [[115,101,108,102],[99,104,105,108,100],[112,97,114,101,110,116],[100,101,115,99,101,110,100,97,110,116],[100,101,115,99,101,110,100,97,110,116,45,111,114,45,115,101,108,102],[97,110,99,101,115,116,111,114],[97,110,99,101,115,116,111,114,45,111,114,45,115,101,108,102],[97,116,116,114,105,98,117,116,101],[110,97,109,101,115,112,97,99,101],[102,111,108,108,111,119,105,110,103,45,115,105,98,108,105,110,103],[112,114,101,99,101,100,105,110,103,45,115,105,98,108,105,110,103],[102,111,108,108,111,119,105,110,103],[112,114,101,99,101,100,105,110,103]] ?_;refine z.h.g ?_;apply za [(1001,1)] hB h
theorem axis_Name_ok {axis:Int}{r:Str}(h:axis_Name axis=some r):XSpec Tryz.prog 90 [I axis] [] (S r) [] []:=by
 unfold axis_Name at h;refine zc Tryz.hU Tryz.func90 (fun _ _ _ hB=> ?_);refine z.F.d6.g ?_;refine zd h (fun _ h=> ?_) (fun _ h=> ?_)
 ·refine z.S.f9.j.g ?_;apply za [] hB h
 refine z.f.g ?_;refine zg [(1,100701)] [] h (fun _=>axis_names_ok) (fun v1 _ h=> ?_);refine z.c5.c7.I.a5.g ?_;refine zn h (fun _ h=> ?_) (fun _ h=> ?_)
 ·refine z.S.g ?_;apply za [] hB h
 refine z.c.M.g ?_;refine zg [(1,101101)] [] h (fun _=>axis_names_ok) (fun v2 _ h=> ?_);refine l_move ?_;refine QT h (fun v3 ev3 h=> ?_);refine Q7 ev3 ?_;refine z.h.g ?_;apply za [] hB h
theorem axis_list_ok {l:(List Int)}{r:(List zk)}(h:Js l=some r):XSpec Tryz.prog 152 [.vs l.length (F cI l)] [] (.sl 1 0 r.length) [(1,.row 54 3 0 (F zG r))] []:=by
 unfold Js at h;refine zc Tryz.hU Tryz.func152 (fun _ _ _ hB=> ?_);refine z.d3.d6.o.c.g ?_;refine k_nilrow (te:=54) (t:=3) 3003 3 ?_;refine zF (fun y1=>⟨[(3,.sl 3003 0 y1.2.length),(6,.vs l.length (F cI l)),(7,I (l.length:Int)),(8,I y1.1)],[(3003,.row 54 3 0 (F zG y1.2))],[]⟩) (fun q4=>(.exit 0,⟨[(3,.sl 3003 0 q4.length)],[(3003,.row 54 3 0 (F zG q4))],[]⟩)) [(3003,3003)] hB h (fun y1 t h=> ?_) (fun q4 h=> ?_)
 ·unfold J0 at h;refine z.a8.g ?_;refine zn h (fun _ h=> ?_) (fun _ h=> ?_)
  ·refine z.c.W.g ?_;refine Qh h (fun v2 _ h=> ?_);refine z.f1.y.o.h7.g ?_;refine Z6 (e:=zG) [(zk.mk v2 0 0)] ?_;refine Jp h (fun v3 _ h=> ?_);refine z.e4.s.g ?_;exact zu [(3003,3003)] hB h
  refine z.l.g ?_;exact zr [(3003,3003)] hB h
 refine z.h.k7.g ?_;apply za [(3003,1)] hB h
theorem JQ {s:(List zk)}{i:Int}{v_:(List zk)}{r:(List zk)}(h:qZ s i v_=some r):XSpec Tryz.prog 149 [.sl 101 0 s.length,I i,.sl 103 0 v_.length] [(101,.row 54 3 0 (F zG s)),(103,.row 54 3 0 (F zG v_))] (.sl 101 0 r.length) [(101,.row 54 3 0 (F zG r))] [103,101]:=by
 obtain ⟨⟨h0,h1,h2⟩,rfl⟩:=ins_some h
 have hi:((i.toNat:Nat):Int)=i:=Int.toNat_of_nonneg h0
 have:=ins_x Tryz.hU Tryz.insW149 rfl rfl rfl rfl (by decide) rfl rfl rfl (by decide) rfl (fun es w=>enters_of Tryz.func149 (by kernel_rfl) rfl es w) (e:=zG) (fun _=>rfl) s v_ i.toNat h1 h2
 rw [hi] at this
 exact this
theorem axis_above_ok {d:(Option qg)}{p:zk}{r:(List zk)}(h:Qk d p=some r):XSpec Tryz.prog 148 [oP Zs d,.agg (zG p)] [] (.sl 1 0 r.length) [(1,.row 54 3 0 (F zG r))] []:=by
 unfold Qk at h;refine zc Tryz.hU Tryz.func148 (fun _ _ _ hB=> ?_);refine z.G.w.l2.g ?_;refine zg [(1,100901)] [] h (fun _=>doc_Doc_Up_ok) (fun v1 _ h=> ?_);refine l_frz 100901 ?_;refine zg [(1,101001)] [] h (fun _=>axis_list_ok) (fun v2 _ h=> ?_);refine z.q.e2.b1.g ?_;refine zn h (fun _ h=> ?_) (fun _ h=> ?_)
 ·refine z.f1.G.m.g ?_;refine Z6 (e:=zG) [(zk.mk p.N 0 0)] ?_;refine zg [(101,101001),(103,1018)] [101001,1018] h (fun _=>JQ) (fun v3 _ h=> ?_);refine z.h.w.g ?_;apply za [(101001,1)] hB h
 refine z.h.t.g ?_;apply za [(101001,1)] hB h
theorem axis_beside_c1_ok {n:Int}{p1:zk}{p2:Bool}{r:Bool}(h:Jn n p1 p2=some r):XSpec Tryz.prog 203 [I n,.vptr (zG p1),.vptr [B p2]] [] (B r) [] []:=by
 unfold Jn at h;refine zc Tryz.hU Tryz.func203 (fun _ _ _ hB=> ?_);refine z.F.G.a1.g ?_;refine zd h (fun _ h=> ?_) (fun _ h=> ?_)
 ·refine z.c3.n.j.g ?_;apply za [] hB h
 refine z.b9.q7.a5.s4.d7.o5.f.g ?_;apply za [] hB h
theorem slices_IndexFunc_int_ok {s:(List Int)}{f:(Int→Option Bool)}{fk_f:Nat}{fc_f:List AV}(hf_f: ∀ {x0:Int} {r:Bool},f x0=some r→XSpec Tryz.prog fk_f ((I x0)::fc_f) [] (B r) [] [])(hc_f:AV.closedL fc_f=true∧AV.onlyL [] fc_f=true){r:Int}(h:Zz s f=some r):XSpec Tryz.prog 239 [.vs s.length (F cI s),.fn (.func fk_f) [] fc_f] [] (I r) [] []:=by
 unfold Zz at h;refine zc Tryz.hU Tryz.func239 (fun _ _ _ hB=> ?_);refine z.d3.d6.g ?_;refine zF (fun y1=>⟨[(0,.vs s.length (F cI s)),(1,.fn (.func fk_f) [] fc_f),(7,I (s.length:Int)),(8,I y1)],[],[]⟩) (Sum.elim (fun q4=>(.ret,⟨[(4,I q4)],[],[]⟩)) (fun q5=>(.exit 0,⟨[],[],[]⟩))) [] hB h (fun y1 t h=> ?_) (fun q h=> ?_)
 ·unfold zB at h;refine z.a8.g ?_;refine zn h (fun _ h=> ?_) (fun _ h=> ?_)
  ·refine z.a.O.j7.g ?_;refine Qh h (fun v2 _ h=> ?_);refine l_load ?_;refine l_callF hc_f h (fun _=>hf_f) (fun v3 _ h=> ?_);refine z.e.g ?_;refine zn h (fun _ h=> ?_) (fun _ h=> ?_)
   ·refine z.E.b.g ?_;exact zr [] hB h
   refine z.d8.g ?_;exact zu [] hB h
  refine z.l.g ?_;exact zr [] hB h
 rcases q with q4|q5
 ·dsimp only [Sum.elim] at h ⊢
  refine z.B.g ?_;apply za [] hB h
 dsimp only [Sum.elim] at h ⊢
 refine z.l7.g ?_;apply za [] hB h
theorem slices_DeleteFunc_int_ok {s:(List Int)}{del:(Int→Option Bool)}{fk_del:Nat}{fc_del:List AV}(hf_del: ∀ {x0:Int} {r:Bool},del x0=some r→XSpec Tryz.prog fk_del ((I x0)::fc_del) [] (B r) [] [])(hc_del:AV.closedL fc_del=true∧AV.onlyL [] fc_del=true){r:(List Int)}(h:qG s del=some r):XSpec Tryz.prog 202 [.sl 101 0 s.length,.fn (.func fk_del) [] fc_del] [(101,.row 3 1 0 (F cI s))] (.sl 101 0 r.length) [(101,.row 3 1 0 (F cI r))] []:=by
 unfold qG at h;refine zc Tryz.hU Tryz.func202 (fun _ _ _ hB=> ?_);refine z.k6.g ?_;refine l_callB (hargs:=by (simp only [List.nil_append,List.append_nil,List.cons_append,AV.mapNL,AV.mapN,zx hc_del.1];rfl)) h (fun _=>slices_IndexFunc_int_ok (fun h=>hf_del h) hc_del) (fun v1 _ h=> ?_);refine z.q.J.g ?_;refine zn h (fun _ h=> ?_) (fun _ h=> ?_)
 ·refine z.h4.h.b.g ?_;apply za [(101,101)] hB h
 refine z.h8.c9.b.e3.g ?_;refine zF (fun y2=>⟨[(0,.sl 101 0 y2.2.2.length),(1,.fn (.func fk_del) [] fc_del),(5,I y2.1),(6,I y2.2.1)],[(101,.row 3 1 0 (F cI y2.2.2))],[]⟩) (fun q7=>(.exit 0,⟨[(0,.sl 101 0 q7.2.length),(5,I q7.1)],[(101,.row 3 1 0 (F cI q7.2))],[]⟩)) [(101,101)] hB h (fun y2 t h=> ?_) (fun q7 h=> ?_)
 ·unfold zC at h;refine z.q.I.m5.g ?_;refine zn h (fun _ h=> ?_) (fun _ h=> ?_)
  ·refine z.i.W.g ?_;refine QT h (fun v3 ev3 h=> ?_);refine Q7 ev3 ?_;refine z.O.g ?_;refine l_callF hc_del h (fun _=>hf_del) (fun v4 _ h=> ?_);refine z.d4.g ?_;refine zn h (fun _ h=> ?_) (fun _ h=> ?_)
   ·refine z.a.i.g ?_;refine QT h (fun v5 ev5 h=> ?_);refine l_put0 ev5 h (fun v6 ev6 h=> ?_);refine z.k0.l9.m.e.g ?_;refine qj 0 v6.length ?_;exact zu [(101,101)] hB h
   refine z.k0.Q.g ?_;exact zu [(101,101)] hB h
  refine z.l.g ?_;exact zr [(101,101)] hB h
 refine z.i.c2.g ?_;refine l_sub0 h (fun h=> ?_);refine l_clr (q:=q7.1.toNat) (e:=cI) h (fun v8 ev8 h=> ?_);refine z.i.e.g ?_;refine l_subp h (fun h=> ?_);refine z.h.g ?_;refine f_shrink 101 h (fun v9 ev9 h=> ?_);refine qj 4 v9.length ?_;apply za [(101,101)] hB h
theorem axis_beside_ok {d:(Option qg)}{p:zk}{behind:Bool}{r:(List zk)}(h:Zv d p behind=some r):XSpec Tryz.prog 150 [oP Zs d,.agg (zG p),B behind] [] (.sl 1 0 r.length) [(1,.row 54 3 0 (F zG r))] []:=by
 unfold Zv at h;refine zc Tryz.hU Tryz.func150 (fun _ _ _ hB=> ?_);refine z.a6.w.p1.l2.g ?_;refine zo h (fun _=>point_Parent_ok) (fun v1 _ h=> ?_);refine z.f8.J.k9.d1.k8.g ?_;refine zd h (fun _ h=> ?_) (fun _ h=> ?_)
 ·refine z.S.f9.k.g ?_;refine Jv (te:=54) (t:=6) 3006 3 ?_;apply za [(3006,1)] hB h
 refine z.c5.d7.H.g ?_;refine zn h (fun _ h=> ?_) (fun _ h=> ?_)
 ·refine z.S.g ?_;refine Jv (te:=54) (t:=6) 3006 3 ?_;apply za [(3006,1)] hB h
 refine z.G.t.g ?_;refine zg [(1,102501)] [] h (fun _=>doc_Doc_Kids_ok) (fun v2 _ h=> ?_);refine l_makeFunc ?_;refine l_frz 1004 ?_;refine l_frz 1005 ?_;refine zg [(101,102501)] [102501] h (fun _=>slices_DeleteFunc_int_ok (fun h=>axis_beside_c1_ok h) ⟨rfl,rfl⟩) (fun v3 _ h=> ?_);refine l_frz 102501 ?_;refine zg [(1,102801)] [] h (fun _=>axis_list_ok) (fun v4 _ h=> ?_);refine z.h.g ?_;apply za [(102801,1)] hB h
theorem slices_Index_int_ok {s:(List Int)}{v_:Int}{r:Int}(h:QD s v_=some r):XSpec Tryz.prog 240 [.vs s.length (F cI s),I v_] [] (I r) [] []:=by
 unfold QD at h;refine zc Tryz.hU Tryz.func240 (fun _ _ _ hB=> ?_);refine z.d3.d6.g ?_;refine zF (fun y1=>⟨[(0,.vs s.length (F cI s)),(1,I v_),(7,I (s.length:Int)),(8,I y1)],[],[]⟩) (Sum.elim (fun q3=>(.ret,⟨[(4,I q3)],[],[]⟩)) (fun q4=>(.exit 0,⟨[],[],[]⟩))) [] hB h (fun y1 t h=> ?_) (fun q h=> ?_)
 ·unfold qE at h;refine z.a8.g ?_;refine zn h (fun _ h=> ?_) (fun _ h=> ?_)
  ·refine z.a.O.j7.g ?_;refine Qh h (fun v2 _ h=> ?_);refine z.q.h7.g ?_;refine zn h (fun _ h=> ?_) (fun _ h=> ?_)
   ·refine z.E.b.g ?_;exact zr [] hB h
   refine z.d8.g ?_;exact zu [] hB h
  refine z.l.g ?_;exact zr [] hB h
 rcases q with q3|q4
 ·dsimp only [Sum.elim] at h ⊢
  refine z.B.g ?_;apply za [] hB h
 dsimp only [Sum.elim] at h ⊢
 refine z.l7.g ?_;apply za [] hB h
theorem slices_Contains_int_ok {s:(List Int)}{v_:Int}{r:Bool}(h:Za s v_=some r):XSpec Tryz.prog 204 [.vs s.length (F cI s),I v_] [] (B r) [] []:=by
 unfold Za at h;refine zc Tryz.hU Tryz.func204 (fun _ _ _ hB=> ?_);refine z.k6.g ?_;refine zo h (fun _=>slices_Index_int_ok) (fun v1 _ h=> ?_);refine z.h.d7.g ?_;apply za [] hB h
theorem axis_run_ok {from_:Int}{to_:Int}{but:(List Int)}{r:(List zk)}(h:Qm from_ to_ but=some r):XSpec Tryz.prog 153 [I from_,I to_,.vs but.length (F cI but)] [] (.sl 1 0 r.length) [(1,.row 54 3 0 (F zG r))] []:=by
 unfold Qm at h;refine zc Tryz.hU Tryz.func153 (fun _ _ _ hB=> ?_);refine z.h8.d6.o.c.g ?_;refine k_nilrow (te:=54) (t:=7) 3007 3 ?_;refine zF (fun y1=>⟨[(1,I to_),(2,.vs but.length (F cI but)),(7,.sl 3007 0 y1.2.length),(8,I y1.1)],[(3007,.row 54 3 0 (F zG y1.2))],[]⟩) (fun q4=>(.exit 0,⟨[(7,.sl 3007 0 q4.length)],[(3007,.row 54 3 0 (F zG q4))],[]⟩)) [(3007,3007)] hB h (fun y1 t h=> ?_) (fun q4 h=> ?_)
 ·unfold Q0 at h;refine z.i0.g ?_;refine zn h (fun _ h=> ?_) (fun _ h=> ?_)
  ·refine z.i.W.g ?_;refine zo h (fun _=>slices_Contains_int_ok) (fun v2 _ h=> ?_);refine z.d4.g ?_;refine zn h (fun _ h=> ?_) (fun _ h=> ?_)
   ·refine z.f1.y.g ?_;refine Z6 (e:=zG) [(zk.mk y1.1 0 0)] ?_;refine Jp h (fun v3 _ h=> ?_);refine z.k0.s.g ?_;exact zu [(3007,3007)] hB h
   refine z.k0.Q.g ?_;exact zu [(3007,3007)] hB h
  refine z.l.g ?_;exact zr [(3007,3007)] hB h
 refine z.h.k7.g ?_;apply za [(3007,1)] hB h
theorem axis_far_ok {d:(Option qg)}{p:zk}{axis:Int}{r:(List zk)}(h:axis_far d p axis=some r):XSpec Tryz.prog 151 [oP Zs d,.agg (zG p),I axis] [] (.sl 1 0 r.length) [(1,.row 54 3 0 (F zG r))] []:=by
 unfold axis_far at h;refine zc Tryz.hU Tryz.func151 (fun _ _ _ hB=> ?_);refine z.q.J.l2.g ?_;refine zn h (fun _ h=> ?_) (fun _ h=> ?_)
 ·refine zaE ?_;refine qX [] (.q 0 (.q 1 (.q 2 (.q 3 (.q 4 (.e 5 (.e 6 (.q 7 .done)))))))) hm ?_;refine z.v.i5.l5.A.m6.g ?_;refine zI [(1,101501)] [] h (fun _=>doc_Doc_Up_ok) (fun v1 _ h=> ?_);refine m_frz 101501 ?_;refine ge ?_;refine zI [(1,101601)] [] h (fun _=>axis_run_ok) (fun v2 _ h=> ?_);refine z.h4.h6.f2.k5.g ?_;apply za [(101601,1)] hB h
 refine z.G.t.g ?_;refine zo h (fun _=>doc_Doc_End_ok) (fun v3 _ h=> ?_);refine z.q.e2.b1.g ?_;refine zn h (fun _ h=> ?_) (fun _ h=> ?_)
 ·refine z.O.c9.G.o1.g ?_;refine zo h (fun _=>JG) (fun v4 _ h=> ?_);refine l_callXN [(1,103001)] [] h (fun _=>axis_run_ok) (fun v5 _ h=> ?_);refine z.h.g ?_;apply za [(103001,1)] hB h
 refine z.h5.g ?_;refine zo h (fun _=>JG) (fun v6 _ h=> ?_);refine l_callXN [(1,103001)] [] h (fun _=>axis_run_ok) (fun v7 _ h=> ?_);refine z.h.g ?_;apply za [(103001,1)] hB h
end Go.Proofs.YtojbjdcflgeibaaGreatDoor
