/-
  WALKS, printed by aw.py: that the program's functions compute the plain ones. Conditions: none.
-/
import Derived.Test.YtojbjdcflgeibaaGreatDoorQWalk4
set_option linter.unusedVariables false
set_option linter.unusedSimpArgs false
set_option maxRecDepth 20000
set_option maxHeartbeats 4000000
namespace Go.Proofs.YtojbjdcflgeibaaGreatDoor
open Go Go.Abs W G
theorem doc_Doc_End_ok {d:(Option qt)}{n:Int}{r:Int}(h:zao d n=some r):XSpec Tryz.prog 19 [oP Zw d,I n] [] (I r) [] []:=by
  unfold zao at h;refine zf Tryz.hU Tryz.func19 (fun _ _ _ hB=> ?_);refine z.i.j4.g ?_;refine zn h (fun _=>doc_Doc_has_ok) (fun v1 _ h=> ?_);refine z.d3.g ?_;refine zo h (fun _ h=> ?_) (fun _ h=> ?_)
  · refine z.Y.g ?_;apply za [] hB h
  refine z.B.g ?_;refine l_deref h (fun v2 _ h=> ?_);refine z.a.M.g ?_;refine Qd h (fun v3 _ h=> ?_);refine z.h.j6.g ?_;apply za [] hB h
theorem doc_Doc_Up_ok {d:(Option qt)}{n:Int}{r:(List Int)}(h:doc_Doc_Up d n=some r):XSpec Tryz.prog 74 [oP Zw d,I n] [] (.sl 1 0 r.length) [(1,.row 3 1 0 (F cI r))] []:=by
  unfold doc_Doc_Up at h;refine zf Tryz.hU Tryz.func74 (fun _ _ _ hB=> ?_);refine z.i.j4.o.c.g ?_;refine zn h (fun _=>doc_Doc_has_ok) (fun v1 _ h=> ?_);refine z.d3.g ?_;refine zo h (fun _ h=> ?_) (fun _ h=> ?_)
  · refine z.Y.g ?_;refine f_nilrow (te:=3) (t:=4) 3004 1 ?_;apply za [(3004,1)] hB h
  refine z.d.d8.g ?_;refine l_deref h (fun v2 _ h=> ?_);refine z.a.M.g ?_;refine Qd h (fun v3 _ h=> ?_);refine z.i2.M.g ?_;refine k_nilrow (te:=3) (t:=5) 3005 1 ?_;refine zE (fun y4=>⟨[(0,oP Zw d),(5,.sl 3005 0 y4.2.length),(6,I y4.1)],[(3005,.row 3 1 0 (F cI y4.2))],[]⟩) (fun q8=>(.exit 0,⟨[(5,.sl 3005 0 q8.length)],[(3005,.row 3 1 0 (F cI q8))],[]⟩)) [(3005,3005)] hB h (fun y4 t h=> ?_) (fun q8 h=> ?_)
  · unfold doc_Doc_Up_b1 at h;refine z.q.S.g ?_;refine zo h (fun _ h=> ?_) (fun _ h=> ?_)
    · refine z.x.a1.g ?_;refine Qz (e:=cI) [y4.1] ?_;refine QN h (fun v5 _ h=> ?_);refine z.m6.y.g ?_;refine l_deref h (fun v6 _ h=> ?_);refine z.a.M.g ?_;refine Qd h (fun v7 _ h=> ?_);refine z.y.M.g ?_;exact zt [(3005,3005)] hB h
    refine z.l.g ?_;exact zr [(3005,3005)] hB h
  refine z.h.k3.g ?_;apply za [(3005,1)] hB h
theorem slices_Insert_int_ok {s:(List Int)}{i:Int}{v_:(List Int)}{r:(List Int)}(h:slices_Insert_int s i v_=some r):XSpec Tryz.prog 73 [.sl 101 0 s.length,I i,.sl 103 0 v_.length] [(101,.row 3 1 0 (F cI s)),(103,.row 3 1 0 (F cI v_))] (.sl 101 0 r.length) [(101,.row 3 1 0 (F cI r))] [103,101]:=by
  obtain ⟨⟨h0,h1,h2⟩,rfl⟩:=ins_some h
  have hi:((i.toNat:Nat):Int)=i:=Int.toNat_of_nonneg h0
  have:=ins_x Tryz.hU Tryz.insW73 rfl rfl rfl rfl (by decide) rfl rfl rfl (by decide) rfl (fun es w=>enters_of Tryz.func73 (by kernel_rfl) rfl es w) (e:=cI) (fun _=>rfl) s v_ i.toNat h1 h2
  rw [hi] at this
  exact this
theorem Z9 {data:(List zb)}{a:Int}{b:Int}{cmp:(zb→zb→Option Int)}{fk_cmp:Nat}{fc_cmp:List AV}(hf_cmp: ∀ {x0:zb} {x1:zb} {r:Int},cmp x0 x1=some r→XSpec Tryz.prog fk_cmp ((.agg (zk x0))::(.agg (zk x1))::fc_cmp) [] (I r) [] [])(hc_cmp:AV.closedL fc_cmp=true∧AV.onlyL [] fc_cmp=true){r:(List zb)}(h:zP data a b cmp=some r):XSpec Tryz.prog 233 [.sl 101 0 data.length,I a,I b,.fn (.func fk_cmp) [] fc_cmp] [(101,.row 39 2 0 (F zk data))] (.tup []) [(101,.row 39 2 0 (F zk r))] []:=by
  unfold zP at h;refine zf Tryz.hU Tryz.func233 (fun _ _ _ hB=> ?_);refine z.i2.d4.d.g ?_;refine zE (fun y1=>⟨[(0,.sl 101 0 y1.2.length),(1,I a),(2,I b),(3,.fn (.func fk_cmp) [] fc_cmp),(8,I y1.1)],[(101,.row 39 2 0 (F zk y1.2))],[]⟩) (fun q14=>(.exit 0,⟨[],[(101,.row 39 2 0 (F zk q14))],[]⟩)) [(101,101)] hB h (fun y1 t h=> ?_) (fun q14 h=> ?_)
  · unfold qm at h;refine z.i6.g ?_;refine zo h (fun _ h=> ?_) (fun _ h=> ?_)
    · refine z.i2.k8.g ?_;refine zE (fun y2=>⟨[(0,.sl 101 0 y2.2.length),(1,I a),(2,I b),(3,.fn (.func fk_cmp) [] fc_cmp),(8,I y1.1),(9,I y2.1)],[(101,.row 39 2 0 (F zk y2.2))],[]⟩) (fun q13=>(.exit 2,⟨[(0,.sl 101 0 q13.length),(1,I a),(2,I b),(3,.fn (.func fk_cmp) [] fc_cmp),(8,I y1.1)],[(101,.row 39 2 0 (F zk q13))],[]⟩)) [(101,101)] hB h (fun y2 t h=> ?_) (fun q13 h=> ?_)
      · unfold ql at h;refine z.O.O.g ?_;refine qP (fun q6=>(.normal,⟨[(0,.sl 101 0 y2.2.length),(1,I a),(2,I b),(3,.fn (.func fk_cmp) [] fc_cmp),(8,I y1.1),(9,I y2.1),(34,B q6)],[(101,.row 39 2 0 (F zk y2.2))],[]⟩)) h (fun t h=> ?_) (fun q6 h=> ?_)
        · refine Zt [] (.q 0 (.q 1 (.q 2 (.q 3 (.q 4 (.q 5 (.q 6 (.q 7 (.q 8 (.q 9 (.q 10 (.q 11 (.q 12 (.q 13 (.e 14 (.q 15 (.q 16 (.done)))))))))))))))))) hm ?_;refine z.F.b1.h2.g ?_;refine Qp h (fun _ h=> ?_) (fun _ h=> ?_)
          · refine z.b5.b5.b5.f3.g ?_;refine zU h (fun v3 ev3 h=> ?_);refine z.t.g ?_;refine JB ev3 ?_;refine z.t.m5.b5.b5.t.g ?_;refine zU h (fun v4 ev4 h=> ?_);refine z.t.g ?_;refine JB ev4 ?_;refine z.G.g ?_;refine n_callF hc_cmp h (fun _=>hf_cmp) (fun v5 _ h=> ?_);refine z.Z.b.b1.t.g ?_;exact zp [(101,101)] hB h
          refine z.e2.p3.V.A.n3.o2.e3.e3.g ?_;exact zp [(101,101)] hB h
        refine f_t ?_;refine zo h (fun _ h=> ?_) (fun _ h=> ?_)
        · refine z.a1.g ?_;refine Zt [15,17] (.q 0 (.q 1 (.q 5 (.q 6 (.q 7 (.q 8 (.q 9 (.q 10 (.q 11 (.q 12 (.q 13 (.q 14 (.s 2 (.s 3 (.alt 4 (.e 15 (.q 16 (.e 17 (.done)))) (.e 15 (.q 4 (.q 16 (.e 17 (.done)))))))))))))))))))) hm ?_;refine z.b.m5.h2.e0.e0.g ?_;refine zU h (fun v7 ev7 h=> ?_);refine gq ?_;refine JB ev7 ?_;refine z.h2.g ?_;refine zU h (fun v8 ev8 h=> ?_);refine gq ?_;refine JB ev8 ?_;refine gq ?_;refine zU h (fun v9 ev9 h=> ?_);refine z.k0.k0.g ?_;refine zM ?_ ?_
          · refine z.A.m5.o0.g ?_;refine JC ev9 h (fun v10 ev10 h=> ?_);refine m_relen 39 v10.length ?_;refine gq ?_;refine zU h (fun v11 ev11 h=> ?_);refine ge ?_;refine JC ev11 h (fun v12 ev12 h=> ?_);refine z.y.U.m6.e2.g ?_;refine qA 0 v12.length ?_;exact zt [(101,101)] hB h
          refine ge ?_;refine JC ev9 h (fun v10 ev10 h=> ?_);refine z.m5.b.g ?_;refine m_relen 39 v10.length ?_;refine gq ?_;refine zU h (fun v11 ev11 h=> ?_);refine ge ?_;refine JC ev11 h (fun v12 ev12 h=> ?_);refine z.y.U.m6.e2.g ?_;refine qA 0 v12.length ?_;exact zt [(101,101)] hB h
        refine z.l.g ?_;exact zr [(101,101)] hB h
      refine z.l2.n6.g ?_;exact zt [(101,101)] hB h
    refine z.l.g ?_;exact zr [(101,101)] hB h
  refine f_be ?_;apply za [(101,101)] hB h
theorem Zx {data:(List zb)}{a:Int}{b:Int}{n:Int}{cmp:(zb→zb→Option Int)}{fk_cmp:Nat}{fc_cmp:List AV}(hf_cmp: ∀ {x0:zb} {x1:zb} {r:Int},cmp x0 x1=some r→XSpec Tryz.prog fk_cmp ((.agg (zk x0))::(.agg (zk x1))::fc_cmp) [] (I r) [] [])(hc_cmp:AV.closedL fc_cmp=true∧AV.onlyL [] fc_cmp=true){r:(List zb)}(h:qs data a b n cmp=some r):XSpec Tryz.prog 272 [.sl 101 0 data.length,I a,I b,I n,.fn (.func fk_cmp) [] fc_cmp] [(101,.row 39 2 0 (F zk data))] (.tup []) [(101,.row 39 2 0 (F zk r))] []:=by
  unfold qs at h;refine zf Tryz.hU Tryz.func272 (fun _ _ _ hB=> ?_);refine z.i2.c.g ?_;refine zE (fun y1=>⟨[(0,.sl 101 0 y1.2.length),(1,I a),(2,I b),(3,I n),(10,I y1.1)],[(101,.row 39 2 0 (F zk y1.2))],[]⟩) (fun q8=>(.exit 0,⟨[],[(101,.row 39 2 0 (F zk q8))],[]⟩)) [(101,101)] hB h (fun y1 t h=> ?_) (fun q8 h=> ?_)
  · unfold QP at h;refine z.i6.g ?_;refine zo h (fun _ h=> ?_) (fun _ h=> ?_)
    · refine z.a1.g ?_;refine Zt [21,23] (.q 0 (.q 1 (.q 2 (.q 3 (.q 8 (.q 9 (.q 10 (.q 11 (.q 12 (.q 13 (.q 14 (.q 15 (.q 16 (.q 17 (.q 18 (.q 19 (.q 20 (.s 4 (.s 5 (.s 6 (.alt 7 (.e 21 (.q 22 (.e 23 (.done)))) (.e 21 (.q 7 (.q 22 (.e 23 (.done)))))))))))))))))))))))))) hm ?_;refine z.b.n0.h2.e0.n0.h2.e0.g ?_;refine zU h (fun v2 ev2 h=> ?_);refine gq ?_;refine JB ev2 ?_;refine z.b.n0.h2.e0.g ?_;refine zU h (fun v3 ev3 h=> ?_);refine gq ?_;refine JB ev3 ?_;refine gq ?_;refine zU h (fun v4 ev4 h=> ?_);refine z.k0.k0.k0.g ?_;refine zM ?_ ?_
      · refine z.A.n0.o0.g ?_;refine JC ev4 h (fun v5 ev5 h=> ?_);refine m_relen 20 v5.length ?_;refine gq ?_;refine zU h (fun v6 ev6 h=> ?_);refine ge ?_;refine JC ev6 h (fun v7 ev7 h=> ?_);refine z.l2.e2.g ?_;refine qA 0 v7.length ?_;exact zt [(101,101)] hB h
      refine ge ?_;refine JC ev4 h (fun v5 ev5 h=> ?_);refine z.n0.b.g ?_;refine m_relen 20 v5.length ?_;refine gq ?_;refine zU h (fun v6 ev6 h=> ?_);refine ge ?_;refine JC ev6 h (fun v7 ev7 h=> ?_);refine z.l2.e2.g ?_;refine qA 0 v7.length ?_;exact zt [(101,101)] hB h
    refine z.l.g ?_;exact zr [(101,101)] hB h
  refine f_be ?_;apply za [(101,101)] hB h
theorem Jq {data:(List zb)}{a:Int}{m:Int}{b:Int}{cmp:(zb→zb→Option Int)}{fk_cmp:Nat}{fc_cmp:List AV}(hf_cmp: ∀ {x0:zb} {x1:zb} {r:Int},cmp x0 x1=some r→XSpec Tryz.prog fk_cmp ((.agg (zk x0))::(.agg (zk x1))::fc_cmp) [] (I r) [] [])(hc_cmp:AV.closedL fc_cmp=true∧AV.onlyL [] fc_cmp=true){r:(List zb)}(h:ZB data a m b cmp=some r):XSpec Tryz.prog 259 [.sl 101 0 data.length,I a,I m,I b,.fn (.func fk_cmp) [] fc_cmp] [(101,.row 39 2 0 (F zk data))] (.tup []) [(101,.row 39 2 0 (F zk r))] []:=by
  unfold ZB at h;refine zf Tryz.hU Tryz.func259 (fun _ _ _ hB=> ?_);refine z.c1.c0.U.T.U.i.g ?_;refine zE (fun y1=>⟨[(0,.sl 101 0 y1.2.2.length),(2,I m),(4,.fn (.func fk_cmp) [] fc_cmp),(10,I y1.1),(11,I y1.2.1)],[(101,.row 39 2 0 (F zk y1.2.2))],[]⟩) (fun q6=>(.exit 0,⟨[(0,.sl 101 0 q6.2.length),(2,I m),(4,.fn (.func fk_cmp) [] fc_cmp),(10,I q6.1)],[(101,.row 39 2 0 (F zk q6.2))],[]⟩)) [(101,101)] hB h (fun y1 t h=> ?_) (fun q6 h=> ?_)
  · unfold Js at h;refine z.i6.g ?_;refine zo h (fun _ h=> ?_) (fun _ h=> ?_)
    · refine z.q.i.k2.g ?_;refine zo h (fun _ h=> ?_) (fun _ h=> ?_)
      · refine z.a.k7.U.a.i.g ?_;refine zh (hargs:=by (simp only [List.nil_append,List.append_nil,List.cons_append,AV.mapNL,AV.mapN,zx hc_cmp.1];rfl)) (hon:=by (simp only [List.nil_append,List.append_nil,List.cons_append,AV.onlyL,AV.only,zC hc_cmp.1];rfl)) [] [101] h (fun _=>Zx (fun h=>hf_cmp h) hc_cmp) (fun v2 _ h=> ?_);refine JN h (fun ev3 h=> ?_);refine z.i3.U.x.e.g ?_;refine qA 0 v2.length ?_;exact zt [(101,101)] hB h
      refine z.k7.U.q3.k7.U.a.i.g ?_;refine zh (hargs:=by (simp only [List.nil_append,List.append_nil,List.cons_append,AV.mapNL,AV.mapN,zx hc_cmp.1];rfl)) (hon:=by (simp only [List.nil_append,List.append_nil,List.cons_append,AV.onlyL,AV.only,zC hc_cmp.1];rfl)) [] [101] h (fun _=>Zx (fun h=>hf_cmp h) hc_cmp) (fun v4 _ h=> ?_);refine JN h (fun ev5 h=> ?_);refine z.i3.U.x.e.g ?_;refine qA 0 v4.length ?_;exact zt [(101,101)] hB h
    refine z.l.g ?_;exact zr [(101,101)] hB h
  refine z.a.k7.U.a.x.P.g ?_;refine zh (hargs:=by (simp only [List.nil_append,List.append_nil,List.cons_append,AV.mapNL,AV.mapN,zx hc_cmp.1];rfl)) (hon:=by (simp only [List.nil_append,List.append_nil,List.cons_append,AV.onlyL,AV.only,zC hc_cmp.1];rfl)) [] [101] h (fun _=>Zx (fun h=>hf_cmp h) hc_cmp) (fun v7 _ h=> ?_);refine JN h (fun ev8 h=> ?_);refine k_nil ?_;apply za [(101,101)] hB h
theorem slices_symMergeCmpFunc_Decl_F_ok {frec:((List zb)→Int→Int→Int→(zb→zb→Option Int)→Option (List zb))}(hrec: ∀ {data:(List zb)} {a:Int} {m:Int} {b:Int} {cmp:(zb→zb→Option Int)} {fk_cmp:Nat} {fc_cmp:List AV} (hf_cmp: ∀ {x0:zb} {x1:zb} {r:Int},cmp x0 x1=some r→XSpec Tryz.prog fk_cmp ((.agg (zk x0))::(.agg (zk x1))::fc_cmp) [] (I r) [] []) (hc_cmp:AV.closedL fc_cmp=true∧AV.onlyL [] fc_cmp=true) {r:(List zb)},frec data a m b cmp=some r→XSpec Tryz.prog 234 [.sl 101 0 data.length,I a,I m,I b,.fn (.func fk_cmp) [] fc_cmp] [(101,.row 39 2 0 (F zk data))] (.tup []) [(101,.row 39 2 0 (F zk r))] []){data:(List zb)}{a:Int}{m:Int}{b:Int}{cmp:(zb→zb→Option Int)}{fk_cmp:Nat}{fc_cmp:List AV}(hf_cmp: ∀ {x0:zb} {x1:zb} {r:Int},cmp x0 x1=some r→XSpec Tryz.prog fk_cmp ((.agg (zk x0))::(.agg (zk x1))::fc_cmp) [] (I r) [] [])(hc_cmp:AV.closedL fc_cmp=true∧AV.onlyL [] fc_cmp=true){r:(List zb)}(h:ZN frec data a m b cmp=some r):XSpec Tryz.prog 234 [.sl 101 0 data.length,I a,I m,I b,.fn (.func fk_cmp) [] fc_cmp] [(101,.row 39 2 0 (F zk data))] (.tup []) [(101,.row 39 2 0 (F zk r))] []:=by
  unfold ZN at h;refine zf Tryz.hU Tryz.func234 (fun _ _ _ hB=> ?_);refine z.q.U.m0.g ?_;refine zo h (fun _ h=> ?_) (fun _ h=> ?_)
  · refine z.c1.c0.C.d.g ?_;refine zE (fun y1=>⟨[(0,.sl 101 0 data.length),(1,I a),(4,.fn (.func fk_cmp) [] fc_cmp),(10,I y1.1),(11,I y1.2)],[(101,.row 39 2 0 (F zk data))],[]⟩) (fun q5=>(.exit 0,⟨[(0,.sl 101 0 data.length),(1,I a),(10,I q5)],[(101,.row 39 2 0 (F zk data))],[]⟩)) [(101,101)] hB h (fun y1 t h=> ?_) (fun q5 h=> ?_)
    · unfold QV at h;refine z.i6.g ?_;refine zo h (fun _ h=> ?_) (fun _ h=> ?_)
      · refine z.f9.d4.i.k2.g ?_;refine Qs (r:=((v64 (w64 (y1.1+y1.2))).fdiv (2^1))) ?_;refine z.c0.f9.g ?_;refine Zt [] (.q 0 (.q 1 (.q 2 (.q 3 (.q 4 (.q 5 (.q 6 (.q 7 (.q 8 (.e 9 (.q 10 (.done)))))))))))) hm ?_;refine z.h2.e0.g ?_;refine zU h (fun v2 ev2 h=> ?_);refine gq ?_;refine JB ev2 ?_;refine z.h2.g ?_;refine zU h (fun v3 ev3 h=> ?_);refine gq ?_;refine JB ev3 ?_;refine ge ?_;refine n_callF hc_cmp h (fun _=>hf_cmp) (fun v4 _ h=> ?_);refine z.h6.b1.b.g ?_;refine zo h (fun _ h=> ?_) (fun _ h=> ?_)
        · refine z.e4.l6.k.g ?_;exact zt [(101,101)] hB h
        refine z.i3.k.g ?_;exact zt [(101,101)] hB h
      refine z.l.g ?_;exact zr [(101,101)] hB h
    refine z.i2.S.P.g ?_;refine zE (fun y6=>⟨[(0,.sl 101 0 y6.2.length),(10,I q5),(13,I y6.1)],[(101,.row 39 2 0 (F zk y6.2))],[]⟩) (fun q13=>(.exit 2,⟨[],[(101,.row 39 2 0 (F zk q13))],[]⟩)) [(101,101)] hB h (fun y6 t h=> ?_) (fun q13 h=> ?_)
    · unfold Q4 at h;refine z.q.U.m0.g ?_;refine zo h (fun _ h=> ?_) (fun _ h=> ?_)
      · refine z.a1.g ?_;refine Zt [15,17] (.q 0 (.q 1 (.q 5 (.q 6 (.q 7 (.q 8 (.q 9 (.q 10 (.q 11 (.q 12 (.q 13 (.q 14 (.s 2 (.s 3 (.alt 4 (.e 15 (.q 16 (.e 17 (.done)))) (.e 15 (.q 4 (.q 16 (.e 17 (.done)))))))))))))))))))) hm ?_;refine z.b.n0.h2.e0.e0.g ?_;refine zU h (fun v7 ev7 h=> ?_);refine gq ?_;refine JB ev7 ?_;refine z.h2.g ?_;refine zU h (fun v8 ev8 h=> ?_);refine gq ?_;refine JB ev8 ?_;refine gq ?_;refine zU h (fun v9 ev9 h=> ?_);refine z.k0.k0.g ?_;refine zM ?_ ?_
        · refine z.A.n0.o0.g ?_;refine JC ev9 h (fun v10 ev10 h=> ?_);refine m_relen 63 v10.length ?_;refine gq ?_;refine zU h (fun v11 ev11 h=> ?_);refine ge ?_;refine JC ev11 h (fun v12 ev12 h=> ?_);refine z.l2.e2.g ?_;refine qA 0 v12.length ?_;exact zt [(101,101)] hB h
        refine ge ?_;refine JC ev9 h (fun v10 ev10 h=> ?_);refine z.n0.b.g ?_;refine m_relen 63 v10.length ?_;refine gq ?_;refine zU h (fun v11 ev11 h=> ?_);refine ge ?_;refine JC ev11 h (fun v12 ev12 h=> ?_);refine z.l2.e2.g ?_;refine qA 0 v12.length ?_;exact zt [(101,101)] hB h
      refine z.l.g ?_;exact zr [(101,101)] hB h
    refine z.h9.j5.P.g ?_;apply za [(101,101)] hB h
  refine z.q.U.i.d8.g ?_;refine zo h (fun _ h=> ?_) (fun _ h=> ?_)
  · refine z.c1.c0.C.d.g ?_;refine zE (fun y14=>⟨[(0,.sl 101 0 data.length),(2,I m),(4,.fn (.func fk_cmp) [] fc_cmp),(14,I y14.1),(15,I y14.2)],[(101,.row 39 2 0 (F zk data))],[]⟩) (fun q18=>(.exit 4,⟨[(0,.sl 101 0 data.length),(2,I m),(14,I q18)],[(101,.row 39 2 0 (F zk data))],[]⟩)) [(101,101)] hB h (fun y14 t h=> ?_) (fun q18 h=> ?_)
    · unfold Q3 at h;refine z.i6.g ?_;refine zo h (fun _ h=> ?_) (fun _ h=> ?_)
      · refine z.f9.d4.i.k2.g ?_;refine Qs (r:=((v64 (w64 (y14.1+y14.2))).fdiv (2^1))) ?_;refine z.c0.f9.g ?_;refine Zt [] (.q 0 (.q 1 (.q 2 (.q 3 (.q 4 (.q 5 (.q 6 (.q 7 (.q 8 (.e 9 (.q 10 (.q 11 (.done))))))))))))) hm ?_;refine z.h2.e0.g ?_;refine zU h (fun v15 ev15 h=> ?_);refine gq ?_;refine JB ev15 ?_;refine z.h2.g ?_;refine zU h (fun v16 ev16 h=> ?_);refine gq ?_;refine JB ev16 ?_;refine ge ?_;refine n_callF hc_cmp h (fun _=>hf_cmp) (fun v17 _ h=> ?_);refine z.h6.q4.b.b1.b.g ?_;refine zo h (fun _ h=> ?_) (fun _ h=> ?_)
        · refine z.e4.l6.k.g ?_;exact zt [(101,101)] hB h
        refine z.i3.k.g ?_;exact zt [(101,101)] hB h
      refine z.l.g ?_;exact zr [(101,101)] hB h
    refine z.i2.S.P.g ?_;refine zE (fun y19=>⟨[(0,.sl 101 0 y19.2.length),(14,I q18),(17,I y19.1)],[(101,.row 39 2 0 (F zk y19.2))],[]⟩) (fun q26=>(.exit 6,⟨[],[(101,.row 39 2 0 (F zk q26))],[]⟩)) [(101,101)] hB h (fun y19 t h=> ?_) (fun q26 h=> ?_)
    · unfold QY at h;refine z.i6.g ?_;refine zo h (fun _ h=> ?_) (fun _ h=> ?_)
      · refine z.a1.g ?_;refine Zt [15,17] (.q 0 (.q 1 (.q 5 (.q 6 (.q 7 (.q 8 (.q 9 (.q 10 (.q 11 (.q 12 (.q 13 (.q 14 (.s 2 (.s 3 (.alt 4 (.e 15 (.q 16 (.e 17 (.done)))) (.e 15 (.q 4 (.q 16 (.e 17 (.done)))))))))))))))))))) hm ?_;refine z.b.m5.h2.e0.e0.g ?_;refine zU h (fun v20 ev20 h=> ?_);refine gq ?_;refine JB ev20 ?_;refine z.h2.g ?_;refine zU h (fun v21 ev21 h=> ?_);refine gq ?_;refine JB ev21 ?_;refine gq ?_;refine zU h (fun v22 ev22 h=> ?_);refine z.k0.k0.g ?_;refine zM ?_ ?_
        · refine z.A.m5.o0.g ?_;refine JC ev22 h (fun v23 ev23 h=> ?_);refine m_relen 115 v23.length ?_;refine gq ?_;refine zU h (fun v24 ev24 h=> ?_);refine ge ?_;refine JC ev24 h (fun v25 ev25 h=> ?_);refine z.y.U.m6.e2.g ?_;refine qA 0 v25.length ?_;exact zt [(101,101)] hB h
        refine ge ?_;refine JC ev22 h (fun v23 ev23 h=> ?_);refine z.m5.b.g ?_;refine m_relen 115 v23.length ?_;refine gq ?_;refine zU h (fun v24 ev24 h=> ?_);refine ge ?_;refine JC ev24 h (fun v25 ev25 h=> ?_);refine z.y.U.m6.e2.g ?_;refine qA 0 v25.length ?_;exact zt [(101,101)] hB h
      refine z.l.g ?_;exact zr [(101,101)] hB h
    refine z.h9.j5.P.g ?_;apply za [(101,101)] hB h
  refine z.f9.d4.h1.g ?_;refine Qs (r:=((v64 (w64 (a+b))).fdiv (2^1))) ?_;refine z.q.i.c0.a9.o.d4.T.f9.g ?_;refine zo h (fun _ h=> ?_) (fun _ h=> ?_)
  · refine z.c1.c0.U.C.k.o.U.i.g ?_;refine zE (fun y27=>⟨[(0,.sl 101 0 data.length),(1,I a),(2,I m),(3,I b),(4,.fn (.func fk_cmp) [] fc_cmp),(18,I (w64 ((v64 (w64 (a+b))).fdiv (2^1)))),(19,I (w64 ((w64 ((v64 (w64 (a+b))).fdiv (2^1)))+m))),(20,I y27.1),(21,I y27.2),(22,I (w64 ((w64 ((w64 ((v64 (w64 (a+b))).fdiv (2^1)))+m))-1)))],[(101,.row 39 2 0 (F zk data))],[]⟩) (fun q31=>(.exit 8,⟨[(0,.sl 101 0 data.length),(1,I a),(2,I m),(3,I b),(4,.fn (.func fk_cmp) [] fc_cmp),(18,I q31.1),(19,I q31.2.1),(20,I q31.2.2)],[(101,.row 39 2 0 (F zk data))],[]⟩)) [(101,101)] hB h (fun y27 t h=> ?_) (fun q31 h=> ?_)
    · unfold QU at h;refine z.i6.g ?_;refine zo h (fun _ h=> ?_) (fun _ h=> ?_)
      · refine z.f9.d4.i.k2.g ?_;refine Qs (r:=((v64 (w64 (y27.1+y27.2))).fdiv (2^1))) ?_;refine z.c0.f9.g ?_;refine Zt [] (.q 0 (.q 1 (.q 2 (.q 3 (.q 4 (.q 5 (.q 6 (.q 7 (.q 8 (.q 9 (.q 10 (.e 11 (.q 12 (.q 13 (.done))))))))))))))) hm ?_;refine z.b.m5.h2.e0.e0.g ?_;refine zU h (fun v28 ev28 h=> ?_);refine gq ?_;refine JB ev28 ?_;refine z.h2.g ?_;refine zU h (fun v29 ev29 h=> ?_);refine gq ?_;refine JB ev29 ?_;refine ge ?_;refine n_callF hc_cmp h (fun _=>hf_cmp) (fun v30 _ h=> ?_);refine z.h6.q4.b.b1.b.g ?_;refine zo h (fun _ h=> ?_) (fun _ h=> ?_)
        · refine z.e4.l6.k.g ?_;exact zt [(101,101)] hB h
        refine z.i3.k.g ?_;exact zt [(101,101)] hB h
      refine z.l.g ?_;exact zr [(101,101)] hB h
    refine z.e1.U.i.P.g ?_;refine qP (fun q32=>(.normal,⟨[(0,.sl 101 0 data.length),(1,I a),(2,I m),(3,I b),(4,.fn (.func fk_cmp) [] fc_cmp),(18,I q31.1),(20,I q31.2.2),(24,I (w64 (q31.2.1-q31.2.2))),(185,B q32)],[(101,.row 39 2 0 (F zk data))],[]⟩)) h (fun t h=> ?_) (fun q32 h=> ?_)
    · refine z.s.x.g ?_;refine zc h (fun _ h=> ?_) (fun _ h=> ?_)
      · refine z.N.v.w.g ?_;exact zp [(101,101)] hB h
      refine z.c2.j.g ?_;exact zp [(101,101)] hB h
    refine f_t ?_;refine zo h (fun _ h=> ?_) (fun _ h=> ?_)
    · refine z.a.h5.g ?_;refine zh (hargs:=by (simp only [List.nil_append,List.append_nil,List.cons_append,AV.mapNL,AV.mapN,zx hc_cmp.1];rfl)) (hon:=by (simp only [List.nil_append,List.append_nil,List.cons_append,AV.onlyL,AV.only,zC hc_cmp.1];rfl)) [] [101] h (fun _=>Jq (fun h=>hf_cmp h) hc_cmp) (fun v33 _ h=> ?_);refine JN h (fun ev41 h=> ?_);refine z.O.O.e.g ?_;refine qP (fun q34=>(.normal,⟨[(0,.sl 101 0 v33.length),(1,I a),(3,I b),(4,.fn (.func fk_cmp) [] fc_cmp),(18,I q31.1),(20,I q31.2.2),(24,I (w64 (q31.2.1-q31.2.2))),(199,B q34)],[(101,.row 39 2 0 (F zk v33))],[]⟩)) h (fun t h=> ?_) (fun q34 h=> ?_)
      · refine z.s.x.g ?_;refine zc h (fun _ h=> ?_) (fun _ h=> ?_)
        · refine z.N.v.w.g ?_;refine qA 0 v33.length ?_;exact zp [(101,101)] hB h
        refine z.c2.j.g ?_;refine qA 0 v33.length ?_;exact zp [(101,101)] hB h
      refine f_t ?_;refine zo h (fun _ h=> ?_) (fun _ h=> ?_)
      · refine z.a.h5.g ?_;refine zh (hargs:=by (simp only [List.nil_append,List.append_nil,List.cons_append,AV.mapNL,AV.mapN,zx hc_cmp.1];rfl)) (hon:=by (simp only [List.nil_append,List.append_nil,List.cons_append,AV.onlyL,AV.only,zC hc_cmp.1];rfl)) [] [101] h (fun _=>hrec (fun h=>hf_cmp h) hc_cmp) (fun v35 _ h=> ?_);refine JN h (fun ev38 h=> ?_);refine z.s.i.e.g ?_;refine zc h (fun _ h=> ?_) (fun _ h=> ?_)
        · refine z.h8.v.w.g ?_;refine zo h (fun _ h=> ?_) (fun _ h=> ?_)
          · refine z.a.h5.g ?_;refine l_relen 214 v35.length ?_;refine zh (hargs:=by (simp only [List.nil_append,List.append_nil,List.cons_append,AV.mapNL,AV.mapN,zx hc_cmp.1];rfl)) (hon:=by (simp only [List.nil_append,List.append_nil,List.cons_append,AV.onlyL,AV.only,zC hc_cmp.1];rfl)) [] [101] h (fun _=>hrec (fun h=>hf_cmp h) hc_cmp) (fun v36 _ h=> ?_);refine JN h (fun ev37 h=> ?_);refine k_nil ?_;apply za [(101,101)] hB h
          refine k_skip ?_;apply za [(101,101)] hB h
        refine z.R.h0.j.g ?_;apply za [(101,101)] hB h
      refine z.s.h1.g ?_;refine zc h (fun _ h=> ?_) (fun _ h=> ?_)
      · refine z.h8.v.w.g ?_;refine zo h (fun _ h=> ?_) (fun _ h=> ?_)
        · refine z.a.h5.g ?_;refine zh (hargs:=by (simp only [List.nil_append,List.append_nil,List.cons_append,AV.mapNL,AV.mapN,zx hc_cmp.1];rfl)) (hon:=by (simp only [List.nil_append,List.append_nil,List.cons_append,AV.onlyL,AV.only,zC hc_cmp.1];rfl)) [] [101] h (fun _=>hrec (fun h=>hf_cmp h) hc_cmp) (fun v39 _ h=> ?_);refine JN h (fun ev40 h=> ?_);refine k_nil ?_;apply za [(101,101)] hB h
        refine k_skip ?_;apply za [(101,101)] hB h
      refine z.R.h0.j.g ?_;apply za [(101,101)] hB h
    refine z.O.d8.g ?_;refine qP (fun q42=>(.normal,⟨[(0,.sl 101 0 data.length),(1,I a),(3,I b),(4,.fn (.func fk_cmp) [] fc_cmp),(18,I q31.1),(20,I q31.2.2),(24,I (w64 (q31.2.1-q31.2.2))),(199,B q42)],[(101,.row 39 2 0 (F zk data))],[]⟩)) h (fun t h=> ?_) (fun q42 h=> ?_)
    · refine z.s.x.g ?_;refine zc h (fun _ h=> ?_) (fun _ h=> ?_)
      · refine z.N.v.w.g ?_;exact zp [(101,101)] hB h
      refine z.c2.j.g ?_;exact zp [(101,101)] hB h
    refine f_t ?_;refine zo h (fun _ h=> ?_) (fun _ h=> ?_)
    · refine z.a.h5.g ?_;refine zh (hargs:=by (simp only [List.nil_append,List.append_nil,List.cons_append,AV.mapNL,AV.mapN,zx hc_cmp.1];rfl)) (hon:=by (simp only [List.nil_append,List.append_nil,List.cons_append,AV.onlyL,AV.only,zC hc_cmp.1];rfl)) [] [101] h (fun _=>hrec (fun h=>hf_cmp h) hc_cmp) (fun v43 _ h=> ?_);refine JN h (fun ev46 h=> ?_);refine z.s.i.e.g ?_;refine zc h (fun _ h=> ?_) (fun _ h=> ?_)
      · refine z.h8.v.w.g ?_;refine zo h (fun _ h=> ?_) (fun _ h=> ?_)
        · refine z.a.h5.g ?_;refine l_relen 214 v43.length ?_;refine zh (hargs:=by (simp only [List.nil_append,List.append_nil,List.cons_append,AV.mapNL,AV.mapN,zx hc_cmp.1];rfl)) (hon:=by (simp only [List.nil_append,List.append_nil,List.cons_append,AV.onlyL,AV.only,zC hc_cmp.1];rfl)) [] [101] h (fun _=>hrec (fun h=>hf_cmp h) hc_cmp) (fun v44 _ h=> ?_);refine JN h (fun ev45 h=> ?_);refine k_nil ?_;apply za [(101,101)] hB h
        refine k_skip ?_;apply za [(101,101)] hB h
      refine z.R.h0.j.g ?_;apply za [(101,101)] hB h
    refine z.s.h1.g ?_;refine zc h (fun _ h=> ?_) (fun _ h=> ?_)
    · refine z.h8.v.w.g ?_;refine zo h (fun _ h=> ?_) (fun _ h=> ?_)
      · refine z.a.h5.g ?_;refine zh (hargs:=by (simp only [List.nil_append,List.append_nil,List.cons_append,AV.mapNL,AV.mapN,zx hc_cmp.1];rfl)) (hon:=by (simp only [List.nil_append,List.append_nil,List.cons_append,AV.onlyL,AV.only,zC hc_cmp.1];rfl)) [] [101] h (fun _=>hrec (fun h=>hf_cmp h) hc_cmp) (fun v47 _ h=> ?_);refine JN h (fun ev48 h=> ?_);refine k_nil ?_;apply za [(101,101)] hB h
      refine k_skip ?_;apply za [(101,101)] hB h
    refine z.R.h0.j.g ?_;apply za [(101,101)] hB h
  refine z.c1.c0.U.C.k.o.d.g ?_;refine zE (fun y49=>⟨[(0,.sl 101 0 data.length),(1,I a),(2,I m),(3,I b),(4,.fn (.func fk_cmp) [] fc_cmp),(18,I (w64 ((v64 (w64 (a+b))).fdiv (2^1)))),(19,I (w64 ((w64 ((v64 (w64 (a+b))).fdiv (2^1)))+m))),(20,I y49.1),(21,I y49.2),(22,I (w64 ((w64 ((w64 ((v64 (w64 (a+b))).fdiv (2^1)))+m))-1)))],[(101,.row 39 2 0 (F zk data))],[]⟩) (fun q53=>(.exit 8,⟨[(0,.sl 101 0 data.length),(1,I a),(2,I m),(3,I b),(4,.fn (.func fk_cmp) [] fc_cmp),(18,I q53.1),(19,I q53.2.1),(20,I q53.2.2)],[(101,.row 39 2 0 (F zk data))],[]⟩)) [(101,101)] hB h (fun y49 t h=> ?_) (fun q53 h=> ?_)
  · unfold Q5 at h;refine z.i6.g ?_;refine zo h (fun _ h=> ?_) (fun _ h=> ?_)
    · refine z.f9.d4.i.k2.g ?_;refine Qs (r:=((v64 (w64 (y49.1+y49.2))).fdiv (2^1))) ?_;refine z.c0.f9.g ?_;refine Zt [] (.q 0 (.q 1 (.q 2 (.q 3 (.q 4 (.q 5 (.q 6 (.q 7 (.q 8 (.q 9 (.q 10 (.e 11 (.q 12 (.q 13 (.done))))))))))))))) hm ?_;refine z.b.m5.h2.e0.e0.g ?_;refine zU h (fun v50 ev50 h=> ?_);refine gq ?_;refine JB ev50 ?_;refine z.h2.g ?_;refine zU h (fun v51 ev51 h=> ?_);refine gq ?_;refine JB ev51 ?_;refine ge ?_;refine n_callF hc_cmp h (fun _=>hf_cmp) (fun v52 _ h=> ?_);refine z.h6.q4.b.b1.b.g ?_;refine zo h (fun _ h=> ?_) (fun _ h=> ?_)
      · refine z.e4.l6.k.g ?_;exact zt [(101,101)] hB h
      refine z.i3.k.g ?_;exact zt [(101,101)] hB h
    refine z.l.g ?_;exact zr [(101,101)] hB h
  refine z.e1.U.i.P.g ?_;refine qP (fun q54=>(.normal,⟨[(0,.sl 101 0 data.length),(1,I a),(2,I m),(3,I b),(4,.fn (.func fk_cmp) [] fc_cmp),(18,I q53.1),(20,I q53.2.2),(24,I (w64 (q53.2.1-q53.2.2))),(185,B q54)],[(101,.row 39 2 0 (F zk data))],[]⟩)) h (fun t h=> ?_) (fun q54 h=> ?_)
  · refine z.s.x.g ?_;refine zc h (fun _ h=> ?_) (fun _ h=> ?_)
    · refine z.N.v.w.g ?_;exact zp [(101,101)] hB h
    refine z.c2.j.g ?_;exact zp [(101,101)] hB h
  refine f_t ?_;refine zo h (fun _ h=> ?_) (fun _ h=> ?_)
  · refine z.a.h5.g ?_;refine zh (hargs:=by (simp only [List.nil_append,List.append_nil,List.cons_append,AV.mapNL,AV.mapN,zx hc_cmp.1];rfl)) (hon:=by (simp only [List.nil_append,List.append_nil,List.cons_append,AV.onlyL,AV.only,zC hc_cmp.1];rfl)) [] [101] h (fun _=>Jq (fun h=>hf_cmp h) hc_cmp) (fun v55 _ h=> ?_);refine JN h (fun ev63 h=> ?_);refine z.O.O.e.g ?_;refine qP (fun q56=>(.normal,⟨[(0,.sl 101 0 v55.length),(1,I a),(3,I b),(4,.fn (.func fk_cmp) [] fc_cmp),(18,I q53.1),(20,I q53.2.2),(24,I (w64 (q53.2.1-q53.2.2))),(199,B q56)],[(101,.row 39 2 0 (F zk v55))],[]⟩)) h (fun t h=> ?_) (fun q56 h=> ?_)
    · refine z.s.x.g ?_;refine zc h (fun _ h=> ?_) (fun _ h=> ?_)
      · refine z.N.v.w.g ?_;refine qA 0 v55.length ?_;exact zp [(101,101)] hB h
      refine z.c2.j.g ?_;refine qA 0 v55.length ?_;exact zp [(101,101)] hB h
    refine f_t ?_;refine zo h (fun _ h=> ?_) (fun _ h=> ?_)
    · refine z.a.h5.g ?_;refine zh (hargs:=by (simp only [List.nil_append,List.append_nil,List.cons_append,AV.mapNL,AV.mapN,zx hc_cmp.1];rfl)) (hon:=by (simp only [List.nil_append,List.append_nil,List.cons_append,AV.onlyL,AV.only,zC hc_cmp.1];rfl)) [] [101] h (fun _=>hrec (fun h=>hf_cmp h) hc_cmp) (fun v57 _ h=> ?_);refine JN h (fun ev60 h=> ?_);refine z.s.i.e.g ?_;refine zc h (fun _ h=> ?_) (fun _ h=> ?_)
      · refine z.h8.v.w.g ?_;refine zo h (fun _ h=> ?_) (fun _ h=> ?_)
        · refine z.a.h5.g ?_;refine l_relen 214 v57.length ?_;refine zh (hargs:=by (simp only [List.nil_append,List.append_nil,List.cons_append,AV.mapNL,AV.mapN,zx hc_cmp.1];rfl)) (hon:=by (simp only [List.nil_append,List.append_nil,List.cons_append,AV.onlyL,AV.only,zC hc_cmp.1];rfl)) [] [101] h (fun _=>hrec (fun h=>hf_cmp h) hc_cmp) (fun v58 _ h=> ?_);refine JN h (fun ev59 h=> ?_);refine k_nil ?_;apply za [(101,101)] hB h
        refine k_skip ?_;apply za [(101,101)] hB h
      refine z.R.h0.j.g ?_;apply za [(101,101)] hB h
    refine z.s.h1.g ?_;refine zc h (fun _ h=> ?_) (fun _ h=> ?_)
    · refine z.h8.v.w.g ?_;refine zo h (fun _ h=> ?_) (fun _ h=> ?_)
      · refine z.a.h5.g ?_;refine zh (hargs:=by (simp only [List.nil_append,List.append_nil,List.cons_append,AV.mapNL,AV.mapN,zx hc_cmp.1];rfl)) (hon:=by (simp only [List.nil_append,List.append_nil,List.cons_append,AV.onlyL,AV.only,zC hc_cmp.1];rfl)) [] [101] h (fun _=>hrec (fun h=>hf_cmp h) hc_cmp) (fun v61 _ h=> ?_);refine JN h (fun ev62 h=> ?_);refine k_nil ?_;apply za [(101,101)] hB h
      refine k_skip ?_;apply za [(101,101)] hB h
    refine z.R.h0.j.g ?_;apply za [(101,101)] hB h
  refine z.O.d8.g ?_;refine qP (fun q64=>(.normal,⟨[(0,.sl 101 0 data.length),(1,I a),(3,I b),(4,.fn (.func fk_cmp) [] fc_cmp),(18,I q53.1),(20,I q53.2.2),(24,I (w64 (q53.2.1-q53.2.2))),(199,B q64)],[(101,.row 39 2 0 (F zk data))],[]⟩)) h (fun t h=> ?_) (fun q64 h=> ?_)
  · refine z.s.x.g ?_;refine zc h (fun _ h=> ?_) (fun _ h=> ?_)
    · refine z.N.v.w.g ?_;exact zp [(101,101)] hB h
    refine z.c2.j.g ?_;exact zp [(101,101)] hB h
  refine f_t ?_;refine zo h (fun _ h=> ?_) (fun _ h=> ?_)
  · refine z.a.h5.g ?_;refine zh (hargs:=by (simp only [List.nil_append,List.append_nil,List.cons_append,AV.mapNL,AV.mapN,zx hc_cmp.1];rfl)) (hon:=by (simp only [List.nil_append,List.append_nil,List.cons_append,AV.onlyL,AV.only,zC hc_cmp.1];rfl)) [] [101] h (fun _=>hrec (fun h=>hf_cmp h) hc_cmp) (fun v65 _ h=> ?_);refine JN h (fun ev68 h=> ?_);refine z.s.i.e.g ?_;refine zc h (fun _ h=> ?_) (fun _ h=> ?_)
    · refine z.h8.v.w.g ?_;refine zo h (fun _ h=> ?_) (fun _ h=> ?_)
      · refine z.a.h5.g ?_;refine l_relen 214 v65.length ?_;refine zh (hargs:=by (simp only [List.nil_append,List.append_nil,List.cons_append,AV.mapNL,AV.mapN,zx hc_cmp.1];rfl)) (hon:=by (simp only [List.nil_append,List.append_nil,List.cons_append,AV.onlyL,AV.only,zC hc_cmp.1];rfl)) [] [101] h (fun _=>hrec (fun h=>hf_cmp h) hc_cmp) (fun v66 _ h=> ?_);refine JN h (fun ev67 h=> ?_);refine k_nil ?_;apply za [(101,101)] hB h
      refine k_skip ?_;apply za [(101,101)] hB h
    refine z.R.h0.j.g ?_;apply za [(101,101)] hB h
  refine z.s.h1.g ?_;refine zc h (fun _ h=> ?_) (fun _ h=> ?_)
  · refine z.h8.v.w.g ?_;refine zo h (fun _ h=> ?_) (fun _ h=> ?_)
    · refine z.a.h5.g ?_;refine zh (hargs:=by (simp only [List.nil_append,List.append_nil,List.cons_append,AV.mapNL,AV.mapN,zx hc_cmp.1];rfl)) (hon:=by (simp only [List.nil_append,List.append_nil,List.cons_append,AV.onlyL,AV.only,zC hc_cmp.1];rfl)) [] [101] h (fun _=>hrec (fun h=>hf_cmp h) hc_cmp) (fun v69 _ h=> ?_);refine JN h (fun ev70 h=> ?_);refine k_nil ?_;apply za [(101,101)] hB h
    refine k_skip ?_;apply za [(101,101)] hB h
  refine z.R.h0.j.g ?_;apply za [(101,101)] hB h
theorem slices_symMergeCmpFunc_Decl_n_ok: ∀ (fuel:Nat) {data:(List zb)} {a:Int} {m:Int} {b:Int} {cmp:(zb→zb→Option Int)} {fk_cmp:Nat} {fc_cmp:List AV} (hf_cmp: ∀ {x0:zb} {x1:zb} {r:Int},cmp x0 x1=some r→XSpec Tryz.prog fk_cmp ((.agg (zk x0))::(.agg (zk x1))::fc_cmp) [] (I r) [] []) (hc_cmp:AV.closedL fc_cmp=true∧AV.onlyL [] fc_cmp=true) {r:(List zb)} (h:qQ fuel data a m b cmp=some r),XSpec Tryz.prog 234 [.sl 101 0 data.length,I a,I m,I b,.fn (.func fk_cmp) [] fc_cmp] [(101,.row 39 2 0 (F zk data))] (.tup []) [(101,.row 39 2 0 (F zk r))] []:=by
  intro fuel
  induction fuel with
  |zero=>intro data a m b cmp fk_cmp fc_cmp hf_cmp hc_cmp r h;cases h
  |succ fuel ih=>
    intro data a m b cmp fk_cmp fc_cmp hf_cmp hc_cmp r h
    refine slices_symMergeCmpFunc_Decl_F_ok (frec:=qQ fuel) ?_ (fun h=>hf_cmp h) hc_cmp h;exact @ih
theorem Q7 {data:(List zb)}{a:Int}{m:Int}{b:Int}{cmp:(zb→zb→Option Int)}{fk_cmp:Nat}{fc_cmp:List AV}(hf_cmp: ∀ {x0:zb} {x1:zb} {r:Int},cmp x0 x1=some r→XSpec Tryz.prog fk_cmp ((.agg (zk x0))::(.agg (zk x1))::fc_cmp) [] (I r) [] [])(hc_cmp:AV.closedL fc_cmp=true∧AV.onlyL [] fc_cmp=true){r:(List zb)}(h:Zk data a m b cmp=some r):XSpec Tryz.prog 234 [.sl 101 0 data.length,I a,I m,I b,.fn (.func fk_cmp) [] fc_cmp] [(101,.row 39 2 0 (F zk data))] (.tup []) [(101,.row 39 2 0 (F zk r))] []:=by
  obtain ⟨fuel,h⟩:=lim_some h;exact slices_symMergeCmpFunc_Decl_n_ok fuel (fun h=>hf_cmp h) hc_cmp h
theorem slices_stableCmpFunc_Decl_ok {data:(List zb)}{n:Int}{cmp:(zb→zb→Option Int)}{fk_cmp:Nat}{fc_cmp:List AV}(hf_cmp: ∀ {x0:zb} {x1:zb} {r:Int},cmp x0 x1=some r→XSpec Tryz.prog fk_cmp ((.agg (zk x0))::(.agg (zk x1))::fc_cmp) [] (I r) [] [])(hc_cmp:AV.closedL fc_cmp=true∧AV.onlyL [] fc_cmp=true){r:(List zb)}(h:qM data n cmp=some r):XSpec Tryz.prog 191 [.sl 101 0 data.length,I n,.fn (.func fk_cmp) [] fc_cmp] [(101,.row 39 2 0 (F zk data))] (.tup []) [(101,.row 39 2 0 (F zk r))] []:=by
  unfold qM at h;refine zf Tryz.hU Tryz.func191 (fun _ _ _ hB=> ?_);refine z.c1.c0.D.a4.g ?_;refine zE (fun y1=>⟨[(0,.sl 101 0 y1.2.2.length),(1,I n),(2,.fn (.func fk_cmp) [] fc_cmp),(6,I 20),(7,I y1.1),(8,I y1.2.1)],[(101,.row 39 2 0 (F zk y1.2.2))],[]⟩) (fun q4=>(.exit 0,⟨[(0,.sl 101 0 q4.2.length),(1,I n),(2,.fn (.func fk_cmp) [] fc_cmp),(6,I 20),(7,I q4.1)],[(101,.row 39 2 0 (F zk q4.2))],[]⟩)) [(101,101)] hB h (fun y1 t h=> ?_) (fun q4 h=> ?_)
  · unfold qY at h;refine z.i6.g ?_;refine zo h (fun _ h=> ?_) (fun _ h=> ?_)
    · refine z.k7.i.k2.g ?_;refine zh (hargs:=by (simp only [List.nil_append,List.append_nil,List.cons_append,AV.mapNL,AV.mapN,zx hc_cmp.1];rfl)) (hon:=by (simp only [List.nil_append,List.append_nil,List.cons_append,AV.onlyL,AV.only,zC hc_cmp.1];rfl)) [] [101] h (fun _=>Z9 (fun h=>hf_cmp h) hc_cmp) (fun v2 _ h=> ?_);refine JN h (fun ev3 h=> ?_);refine z.e4.l6.x.o.c5.g ?_;refine qA 0 v2.length ?_;exact zt [(101,101)] hB h
    refine z.l.g ?_;exact zr [(101,101)] hB h
  refine z.k7.i.P.g ?_;refine zh (hargs:=by (simp only [List.nil_append,List.append_nil,List.cons_append,AV.mapNL,AV.mapN,zx hc_cmp.1];rfl)) (hon:=by (simp only [List.nil_append,List.append_nil,List.cons_append,AV.onlyL,AV.only,zC hc_cmp.1];rfl)) [] [101] h (fun _=>Z9 (fun h=>hf_cmp h) hc_cmp) (fun v5 _ h=> ?_);refine JN h (fun ev14 h=> ?_);refine z.m3.g ?_;refine k_relen 0 v5.length ?_;refine zE (fun y6=>⟨[(0,.sl 101 0 y6.2.length),(1,I n),(2,.fn (.func fk_cmp) [] fc_cmp),(6,I y6.1)],[(101,.row 39 2 0 (F zk y6.2))],[]⟩) (fun q13=>(.exit 2,⟨[],[(101,.row 39 2 0 (F zk q13))],[]⟩)) [(101,101)] hB h (fun y6 t h=> ?_) (fun q13 h=> ?_)
  · unfold Za at h;refine z.i6.g ?_;refine zo h (fun _ h=> ?_) (fun _ h=> ?_)
    · refine z.c1.c0.D.n1.d.k2.g ?_;refine zE (fun y7=>⟨[(0,.sl 101 0 y7.2.2.length),(1,I n),(2,.fn (.func fk_cmp) [] fc_cmp),(6,I y6.1),(7,I y7.1),(8,I y7.2.1)],[(101,.row 39 2 0 (F zk y7.2.2))],[]⟩) (fun q10=>(.exit 4,⟨[(0,.sl 101 0 q10.2.length),(1,I n),(2,.fn (.func fk_cmp) [] fc_cmp),(6,I y6.1),(7,I q10.1)],[(101,.row 39 2 0 (F zk q10.2))],[]⟩)) [(101,101)] hB h (fun y7 t h=> ?_) (fun q10 h=> ?_)
      · unfold Ze at h;refine z.i6.g ?_;refine zo h (fun _ h=> ?_) (fun _ h=> ?_)
        · refine z.a.q3.k7.i.k2.g ?_;refine zh (hargs:=by (simp only [List.nil_append,List.append_nil,List.cons_append,AV.mapNL,AV.mapN,zx hc_cmp.1];rfl)) (hon:=by (simp only [List.nil_append,List.append_nil,List.cons_append,AV.onlyL,AV.only,zC hc_cmp.1];rfl)) [] [101] h (fun _=>Q7 (fun h=>hf_cmp h) hc_cmp) (fun v8 _ h=> ?_);refine JN h (fun ev9 h=> ?_);refine z.e4.l6.n1.x.o.c5.g ?_;refine qA 0 v8.length ?_;exact zt [(101,101)] hB h
        refine z.l.g ?_;exact zr [(101,101)] hB h
      refine z.q.T.d4.m0.P.g ?_;refine zo h (fun _ h=> ?_) (fun _ h=> ?_)
      · refine z.a.h5.g ?_;refine zh (hargs:=by (simp only [List.nil_append,List.append_nil,List.cons_append,AV.mapNL,AV.mapN,zx hc_cmp.1];rfl)) (hon:=by (simp only [List.nil_append,List.append_nil,List.cons_append,AV.onlyL,AV.only,zC hc_cmp.1];rfl)) [] [101] h (fun _=>Q7 (fun h=>hf_cmp h) hc_cmp) (fun v11 _ h=> ?_);refine JN h (fun ev12 h=> ?_);refine z.i3.n1.k.e.g ?_;refine qA 0 v11.length ?_;exact zt [(101,101)] hB h
      refine z.i3.n1.k.H.g ?_;exact zt [(101,101)] hB h
    refine z.l.g ?_;exact zr [(101,101)] hB h
  refine f_be ?_;apply za [(101,101)] hB h
theorem slices_SortStableFunc_Decl_ok {x:(List zb)}{cmp:(zb→zb→Option Int)}{fk_cmp:Nat}{fc_cmp:List AV}(hf_cmp: ∀ {x0:zb} {x1:zb} {r:Int},cmp x0 x1=some r→XSpec Tryz.prog fk_cmp ((.agg (zk x0))::(.agg (zk x1))::fc_cmp) [] (I r) [] [])(hc_cmp:AV.closedL fc_cmp=true∧AV.onlyL [] fc_cmp=true){r:(List zb)}(h:qE x cmp=some r):XSpec Tryz.prog 134 [.sl 101 0 x.length,.fn (.func fk_cmp) [] fc_cmp] [(101,.row 39 2 0 (F zk x))] (.tup []) [(101,.row 39 2 0 (F zk r))] []:=by
  unfold qE at h;refine zf Tryz.hU Tryz.func134 (fun _ _ _ hB=> ?_);refine z.a.K.x.g ?_;refine zh (hargs:=by (simp only [List.nil_append,List.append_nil,List.cons_append,AV.mapNL,AV.mapN,zx hc_cmp.1];rfl)) (hon:=by (simp only [List.nil_append,List.append_nil,List.cons_append,AV.onlyL,AV.only,zC hc_cmp.1];rfl)) [] [101] h (fun _=>slices_stableCmpFunc_Decl_ok (fun h=>hf_cmp h) hc_cmp) (fun v1 _ h=> ?_);refine JN h (fun ev2 h=> ?_);refine k_nil ?_;apply za [(101,101)] hB h
theorem cmp_isNaN_string_ok {x:Str}{r:Bool}(h:JV x=some r):XSpec Tryz.prog 192 [S x] [] (B r) [] []:=by
  unfold JV at h;refine zf Tryz.hU Tryz.func192 (fun _ _ _ hB=> ?_);refine z.h.i9.k1.g ?_;apply za [] hB h
theorem cmp_Compare_string_ok {x:Str}{y_:Str}{r:Int}(h:ZG x y_=some r):XSpec Tryz.prog 137 [S x,S y_] [] (I r) [] []:=by
  unfold ZG at h;refine zf Tryz.hU Tryz.func137 (fun _ _ _ hB=> ?_);refine z.a4.g ?_;refine zn h (fun _=>cmp_isNaN_string_ok) (fun v1 _ h=> ?_);refine z.C.g ?_;refine zn h (fun _=>cmp_isNaN_string_ok) (fun v2 _ h=> ?_);refine z.e.L.g ?_;refine zo h (fun _ h=> ?_) (fun _ h=> ?_)
  · refine z.e.S.g ?_;refine zo h (fun _ h=> ?_) (fun _ h=> ?_)
    · refine z.h9.Y.g ?_;apply za [] hB h
    refine z.Y.H.g ?_;apply za [] hB h
  refine z.e.d.d8.g ?_;refine zo h (fun _ h=> ?_) (fun _ h=> ?_)
  · refine z.Y.g ?_;apply za [] hB h
  refine z.e.t0.i.d8.g ?_;refine zo h (fun _ h=> ?_) (fun _ h=> ?_)
  · refine z.Y.g ?_;apply za [] hB h
  refine z.e.t1.i.d8.g ?_;refine zo h (fun _ h=> ?_) (fun _ h=> ?_)
  · refine z.Y.g ?_;apply za [] hB h
  refine z.a0.H.g ?_;apply za [] hB h
theorem cmp_Or_int_ok {vals:(List Int)}{r:Int}(h:cmp_Or_int vals=some r):XSpec Tryz.prog 136 [.vs vals.length (F cI vals)] [] (I r) [] []:=by
  unfold cmp_Or_int at h;refine zf Tryz.hU Tryz.func136 (fun _ _ _ hB=> ?_);refine z.e9.f1.o.c.g ?_;refine zE (fun y1=>⟨[(3,I 0),(6,.vs vals.length (F cI vals)),(7,I (vals.length:Int)),(8,I y1)],[],[]⟩) (Sum.elim (fun q3=>(.ret,⟨[(2,I q3)],[],[]⟩)) (fun q4=>(.exit 0,⟨[(3,I 0)],[],[]⟩))) [] hB h (fun y1 t h=> ?_) (fun q h=> ?_)
  · unfold cmp_Or_int_b1 at h;refine z.b6.g ?_;refine zo h (fun _ h=> ?_) (fun _ h=> ?_)
    · refine z.c.a1.g ?_;refine Qd h (fun v2 _ h=> ?_);refine z.q.T.j6.g ?_;refine zo h (fun _ h=> ?_) (fun _ h=> ?_)
      · refine z.p.h.d.g ?_;exact zr [] hB h
      refine z.e6.g ?_;exact zt [] hB h
    refine z.l.g ?_;exact zr [] hB h
  rcases q with q3|q4
  · dsimp only [Sum.elim] at h ⊢
    refine z.p.g ?_;apply za [] hB h
  dsimp only [Sum.elim] at h ⊢
  refine z.h.k3.g ?_;apply za [] hB h
theorem space_Sorted_c1_ok {a:zb}{b:zb}{r:Int}(h:Ju a b=some r):XSpec Tryz.prog 135 [.agg (zk a),.agg (zk b)] [] (I r) [] []:=by
  unfold Ju at h;refine zf Tryz.hU Tryz.func135 (fun _ _ _ hB=> ?_);refine z.c0.l8.l8.c.g ?_;refine Zt [] (.q 0 (.q 1 (.q 2 (.q 3 (.q 5 (.q 6 (.q 7 (.q 8 (.e 4 (.e 9 (.e 10 (.e 11 (.q 12 (.done)))))))))))))) hm ?_;refine z.A.m7.m7.m7.m7.g ?_;refine n_call h (fun _=>cmp_Compare_string_ok) (fun v1 _ h=> ?_);refine ge ?_;refine n_call h (fun _=>cmp_Compare_string_ok) (fun v2 _ h=> ?_);refine ge ?_;refine n_lit (e:=cI) [v1,v2] ?_;refine ge ?_;refine n_callB h (fun _=>cmp_Or_int_ok) (fun v3 _ h=> ?_);refine z.j5.h6.m2.b.g ?_;apply za [] hB h
theorem space_Sorted_ok {l:(List zb)}{r:(List zb)}(h:space_Sorted l=some r):XSpec Tryz.prog 75 [.vs l.length (F zk l)] [] (.sl 1 0 r.length) [(1,.row 39 2 0 (F zk r))] []:=by
  unfold space_Sorted at h;refine zf Tryz.hU Tryz.func75 (fun _ _ _ hB=> ?_);refine z.a4.g ?_;refine zh [(1,100501)] [] h (fun _=>slices_Clone_Decl_ok) (fun v1 _ h=> ?_);refine z.C.g ?_;refine zh [(101,100501)] [100501] h (fun _=>slices_SortStableFunc_Decl_ok (fun h=>space_Sorted_c1_ok h) ⟨rfl,rfl⟩) (fun v2 _ h=> ?_);refine JN h (fun ev3 h=> ?_);refine z.h.c5.g ?_;refine qA 2 v2.length ?_;apply za [(100501,1)] hB h
theorem space_Scope_ok {d:(Option qt)}{n:Int}{r:(List zb)}(h:JK d n=some r):XSpec Tryz.prog 25 [oP Zw d,I n] [] (.sl 1 0 r.length) [(1,.row 39 2 0 (F zk r))] []:=by
  unfold JK at h;refine zf Tryz.hU Tryz.func25 (fun _ _ _ hB=> ?_);refine z.i.j4.g ?_;refine zn h (fun _=>Zv) (fun v1 _ h=> ?_);refine z.q.p7.g ?_;refine zo h (fun _ h=> ?_) (fun _ h=> ?_)
  · refine z.Y.g ?_;refine f_nilrow (te:=39) (t:=4) 3004 2 ?_;apply za [(3004,1)] hB h
  refine z.t2.c.H.g ?_;refine l_mput keyS (ev:=(fun v=>B v)) (m:=[]) (k:=[120,109,108]) true ?_;refine z.l1.c.o.a.g ?_;refine Qz (e:=zk) [(zb.mk [120,109,108] [104,116,116,112,58,47,47,119,119,119,46,119,51,46,111,114,103,47,88,77,76,47,49,57,57,56,47,110,97,109,101,115,112,97,99,101])] ?_;refine z.i.c0.g ?_;refine zh [(1,102201)] [] h (fun _=>doc_Doc_Up_ok) (fun v2 _ h=> ?_);refine l_move ?_;refine Qz (e:=cI) [n] ?_;refine zh [(101,102201),(103,1024)] [102201,1024] h (fun _=>slices_Insert_int_ok) (fun v3 _ h=> ?_);refine l_to [(1016,1016),(1019,1019),(102201,102201)] ⟨[(0,oP Zw d),(5,.mp 1016),(6,.sl 1019 0 ([(zb.mk [120,109,108] [104,116,116,112,58,47,47,119,119,119,46,119,51,46,111,114,103,47,88,77,76,47,49,57,57,56,47,110,97,109,101,115,112,97,99,101])].length)),(25,.sl 102201 0 v3.length)],[(1016,.map (MP kS (fun v=>B v) (mput [] [120,109,108] true))),(1019,.row 39 2 0 (F zk [(zb.mk [120,109,108] [104,116,116,112,58,47,47,119,119,119,46,119,51,46,111,114,103,47,88,77,76,47,49,57,57,56,47,110,97,109,101,115,112,97,99,101])])),(102201,.row 3 1 0 (F cI v3))],[1024,102201]⟩ hB ?_;refine z.e9.g ?_;refine zE (fun y4=>⟨[(0,oP Zw d),(5,.mp 1016),(6,.sl 1019 0 y4.2.2.length),(25,.sl 102201 0 v3.length),(26,I (v3.length:Int)),(27,I y4.1)],[(1016,.map (MP kS (fun v=>B v) y4.2.1)),(1019,.row 39 2 0 (F zk y4.2.2)),(102201,.row 3 1 0 (F cI v3))],[1024,102201]⟩) (fun q11=>(.exit 0,⟨[(6,.sl 1019 0 q11.length)],[(1019,.row 39 2 0 (F zk q11))],[1024,102201]⟩)) [(1016,1016),(1019,1019),(102201,102201)] hB h (fun y4 t h=> ?_) (fun q11 h=> ?_)
  · unfold space_Scope_b1 at h;refine z.b6.g ?_;refine zo h (fun _ h=> ?_) (fun _ h=> ?_)
    · refine z.c.a1.g ?_;refine QO h (fun v5 ev5 h=> ?_);refine Qu ev5 ?_;refine z.T.g ?_;refine zn h (fun _=>Zv) (fun v6 _ h=> ?_);refine z.e9.p7.g ?_;refine zE (fun y7=>⟨[(0,oP Zw d),(5,.mp 1016),(6,.sl 1019 0 y7.2.2.length),(25,.sl 102201 0 v3.length),(26,I (v3.length:Int)),(27,I y4.1),(34,.vs v6.Decls.length (F zk v6.Decls)),(35,I (v6.Decls.length:Int)),(36,I y7.1)],[(1016,.map (MP kS (fun v=>B v) y7.2.1)),(1019,.row 39 2 0 (F zk y7.2.2)),(102201,.row 3 1 0 (F cI v3))],[1024,102201]⟩) (fun q10=>(.exit 2,⟨[(0,oP Zw d),(5,.mp 1016),(6,.sl 1019 0 q10.2.length),(25,.sl 102201 0 v3.length),(26,I (v3.length:Int)),(27,I y4.1)],[(1016,.map (MP kS (fun v=>B v) q10.1)),(1019,.row 39 2 0 (F zk q10.2)),(102201,.row 3 1 0 (F cI v3))],[1024,102201]⟩)) [(1016,1016),(1019,1019),(102201,102201)] hB h (fun y7 t h=> ?_) (fun q10 h=> ?_)
      · unfold space_Scope_b2 at h;refine z.b6.g ?_;refine zo h (fun _ h=> ?_) (fun _ h=> ?_)
        · refine z.c.a1.g ?_;refine Qd h (fun v8 _ h=> ?_);refine z.M.S.d2.d1.d6.g ?_;refine l_mget1 keyS (ev:=(fun v=>B v)) (m:=y7.2.1) (k:=v8.Prefix) false ?_;refine z.h3.g ?_;refine zc h (fun _ h=> ?_) (fun _ h=> ?_)
          · refine z.h8.i9.E.g ?_;refine zo h (fun _ h=> ?_) (fun _ h=> ?_)
            · refine z.d6.k.g ?_;refine Qz (e:=zk) [v8] ?_;refine QN h (fun v9 _ h=> ?_);refine z.M.k.o.g ?_;refine l_mupd keyS (ev:=(fun v=>B v)) (m:=y7.2.1) (k:=v8.Prefix) true ?_;refine z.c9.c4.g ?_;exact zt [(1016,1016),(1019,1019),(102201,102201)] hB h
            refine z.M.k.H.g ?_;refine l_mupd keyS (ev:=(fun v=>B v)) (m:=y7.2.1) (k:=v8.Prefix) true ?_;refine z.c9.c4.g ?_;exact zt [(1016,1016),(1019,1019),(102201,102201)] hB h
          refine z.M.k.H.h0.j.g ?_;refine l_mupd keyS (ev:=(fun v=>B v)) (m:=y7.2.1) (k:=v8.Prefix) true ?_;refine z.c9.c4.g ?_;exact zt [(1016,1016),(1019,1019),(102201,102201)] hB h
        refine z.l.g ?_;exact zr [(1016,1016),(1019,1019),(102201,102201)] hB h
      refine z.c9.n6.g ?_;exact zt [(1016,1016),(1019,1019),(102201,102201)] hB h
    refine z.l.g ?_;exact zr [(1019,1019)] hB h
  refine z.k3.g ?_;refine l_frz 1019 ?_;refine zh [(1,106001)] [] h (fun _=>space_Sorted_ok) (fun v12 _ h=> ?_);refine z.h.g ?_;apply za [(106001,1)] hB h
end Go.Proofs.YtojbjdcflgeibaaGreatDoor
