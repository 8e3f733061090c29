/-
  WALKS, printed by aw.py: that the program's functions compute the plain ones. Conditions: none.
-/
import Derived.Test.YtojbjdcflgeibaaGreatDoorQWalk4
set_option linter.unusedVariables false
set_option linter.unusedSimpArgs false
set_option maxRecDepth 20000
set_option maxHeartbeats 4000000
namespace Go.Proofs.YtojbjdcflgeibaaGreatDoor
open Go Go.Abs W G
theorem doc_Doc_Up_ok {d:(Option ZW)}{n:Int}{r:(List Int)}(h:zai d n=some r):XSpec Tryz.prog 74 [oP Jg d,I n] [] (.sl 1 0 r.length) [(1,.row 3 1 0 (F cI r))] []:=by
  unfold zai at h;refine zh Tryz.hU Tryz.func74 (fun _ _ _ hB=> ?_);refine z.h.J.b.l.b.g ?_;refine zo h (fun _=>doc_Doc_has_ok) (fun v1 _ h=> ?_);refine z.e6.g ?_;refine zn h (fun _ h=> ?_) (fun _ h=> ?_)
  · refine z.b4.g ?_;refine f_nilrow (te:=3) (t:=4) 3004 1 ?_;apply zb [(3004,1)] hB h
  refine z.a.e7.g ?_;refine l_deref h (fun v2 _ h=> ?_);refine z.c.a0.g ?_;refine QK h (fun v3 _ h=> ?_);refine z.j8.a0.g ?_;refine k_nilrow (te:=3) (t:=5) 3005 1 ?_;refine zL (fun y4=>⟨[(0,oP Jg d),(5,.sl 3005 0 y4.2.length),(6,I y4.1)],[(3005,.row 3 1 0 (F cI y4.2))],[]⟩) (fun q8=>(.exit 0,⟨[(5,.sl 3005 0 q8.length)],[(3005,.row 3 1 0 (F cI q8))],[]⟩)) [(3005,3005)] hB h (fun y4 t h=> ?_) (fun q8 h=> ?_)
  · unfold QN at h;refine z.t.R.g ?_;refine zn h (fun _ h=> ?_) (fun _ h=> ?_)
    · refine z.p.E.g ?_;refine Je (e:=cI) [y4.1] ?_;refine J3 h (fun v5 _ h=> ?_);refine z.e4.G.g ?_;refine l_deref h (fun v6 _ h=> ?_);refine z.c.a0.g ?_;refine QK h (fun v7 _ h=> ?_);refine z.G.a0.g ?_;exact zv [(3005,3005)] hB h
    refine z.m.g ?_;exact zr [(3005,3005)] hB h
  refine z.k.a.w.g ?_;apply zb [(3005,1)] hB h
theorem slices_Insert_int_ok {s:(List Int)}{i:Int}{v_:(List Int)}{r:(List Int)}(h:QH s i v_=some r):XSpec Tryz.prog 73 [.sl 101 0 s.length,I i,.sl 103 0 v_.length] [(101,.row 3 1 0 (F cI s)),(103,.row 3 1 0 (F cI v_))] (.sl 101 0 r.length) [(101,.row 3 1 0 (F cI r))] [103,101]:=by
  obtain ⟨⟨h0,h1,h2⟩,rfl⟩:=ins_some h
  have hi:((i.toNat:Nat):Int)=i:=Int.toNat_of_nonneg h0
  have:=ins_x Tryz.hU Tryz.insW73 rfl rfl rfl rfl (by decide) rfl rfl rfl (by decide) rfl (fun es w=>enters_of Tryz.func73 (by kernel_rfl) rfl es w) (e:=cI) (fun _=>rfl) s v_ i.toNat h1 h2
  rw [hi] at this
  exact this
theorem Ql {data:(List za)}{a:Int}{b:Int}{cmp:(za→za→Option Int)}{fk_cmp:Nat}{fc_cmp:List AV}(hf_cmp: ∀ {x0:za} {x1:za} {r:Int},cmp x0 x1=some r→XSpec Tryz.prog fk_cmp ((.agg (zk x0))::(.agg (zk x1))::fc_cmp) [] (I r) [] [])(hc_cmp:AV.closedL fc_cmp=true∧AV.onlyL [] fc_cmp=true){r:(List za)}(h:zw data a b cmp=some r):XSpec Tryz.prog 233 [.sl 101 0 data.length,I a,I b,.fn (.func fk_cmp) [] fc_cmp] [(101,.row 39 2 0 (F zk data))] (.tup []) [(101,.row 39 2 0 (F zk r))] []:=by
  unfold zw at h;refine zh Tryz.hU Tryz.func233 (fun _ _ _ hB=> ?_);refine z.j8.a1.a.g ?_;refine zL (fun y1=>⟨[(0,.sl 101 0 y1.2.length),(1,I a),(2,I b),(3,.fn (.func fk_cmp) [] fc_cmp),(8,I y1.1)],[(101,.row 39 2 0 (F zk y1.2))],[]⟩) (fun q14=>(.exit 0,⟨[],[(101,.row 39 2 0 (F zk q14))],[]⟩)) [(101,101)] hB h (fun y1 t h=> ?_) (fun q14 h=> ?_)
  · unfold zE at h;refine z.i5.g ?_;refine zn h (fun _ h=> ?_) (fun _ h=> ?_)
    · refine z.j8.a.E.g ?_;refine zL (fun y2=>⟨[(0,.sl 101 0 y2.2.length),(1,I a),(2,I b),(3,.fn (.func fk_cmp) [] fc_cmp),(8,I y1.1),(9,I y2.1)],[(101,.row 39 2 0 (F zk y2.2))],[]⟩) (fun q13=>(.exit 2,⟨[(0,.sl 101 0 q13.length),(1,I a),(2,I b),(3,.fn (.func fk_cmp) [] fc_cmp),(8,I y1.1)],[(101,.row 39 2 0 (F zk q13))],[]⟩)) [(101,101)] hB h (fun y2 t h=> ?_) (fun q13 h=> ?_)
      · unfold zF at h;refine z.V.V.g ?_;refine Zq (fun q6=>(.normal,⟨[(0,.sl 101 0 y2.2.length),(1,I a),(2,I b),(3,.fn (.func fk_cmp) [] fc_cmp),(8,I y1.1),(9,I y2.1),(34,B q6)],[(101,.row 39 2 0 (F zk y2.2))],[]⟩)) h (fun t h=> ?_) (fun q6 h=> ?_)
        · refine ZR [] (.q 0 (.q 1 (.q 2 (.q 3 (.q 4 (.q 5 (.q 6 (.q 7 (.q 8 (.q 9 (.q 10 (.q 11 (.q 12 (.q 13 (.e 14 (.q 15 (.q 16 (.done)))))))))))))))))) hm ?_;refine z.M.c8.f6.g ?_;refine QI h (fun _ h=> ?_) (fun _ h=> ?_)
          · refine z.b1.b1.b1.h0.g ?_;refine qf h (fun v3 ev3 h=> ?_);refine z.v.g ?_;refine JB ev3 ?_;refine z.v.l6.b1.b1.v.g ?_;refine qf h (fun v4 ev4 h=> ?_);refine z.v.g ?_;refine JB ev4 ?_;refine z.K.g ?_;refine n_callF hc_cmp h (fun _=>hf_cmp) (fun v5 _ h=> ?_);refine z.Y.d.c8.v.g ?_;exact zp [(101,101)] hB h
          refine z.d2.o5.a5.F.m7.n6.d1.d1.g ?_;exact zp [(101,101)] hB h
        refine f_t ?_;refine zn h (fun _ h=> ?_) (fun _ h=> ?_)
        · refine z.E.g ?_;refine ZR [15,17] (.q 0 (.q 1 (.q 5 (.q 6 (.q 7 (.q 8 (.q 9 (.q 10 (.q 11 (.q 12 (.q 13 (.q 14 (.s 2 (.s 3 (.alt 4 (.e 15 (.q 16 (.e 17 (.done)))) (.e 15 (.q 4 (.q 16 (.e 17 (.done)))))))))))))))))))) hm ?_;refine z.d.l6.f6.e3.e3.g ?_;refine qf h (fun v7 ev7 h=> ?_);refine gq ?_;refine JB ev7 ?_;refine z.f6.g ?_;refine qf h (fun v8 ev8 h=> ?_);refine gq ?_;refine JB ev8 ?_;refine gq ?_;refine qf h (fun v9 ev9 h=> ?_);refine z.j5.j5.g ?_;refine zV ?_ ?_
          · refine z.F.l6.n1.g ?_;refine JC ev9 h (fun v10 ev10 h=> ?_);refine m_relen 39 v10.length ?_;refine gq ?_;refine qf h (fun v11 ev11 h=> ?_);refine ge ?_;refine JC ev11 h (fun v12 ev12 h=> ?_);refine z.G.U.e4.d2.g ?_;refine qO 0 v12.length ?_;exact zv [(101,101)] hB h
          refine ge ?_;refine JC ev9 h (fun v10 ev10 h=> ?_);refine z.l6.d.g ?_;refine m_relen 39 v10.length ?_;refine gq ?_;refine qf h (fun v11 ev11 h=> ?_);refine ge ?_;refine JC ev11 h (fun v12 ev12 h=> ?_);refine z.G.U.e4.d2.g ?_;refine qO 0 v12.length ?_;exact zv [(101,101)] hB h
        refine z.m.g ?_;exact zr [(101,101)] hB h
      refine z.i7.e4.m8.g ?_;exact zv [(101,101)] hB h
    refine z.m.g ?_;exact zr [(101,101)] hB h
  refine f_be ?_;apply zb [(101,101)] hB h
theorem ZH {data:(List za)}{a:Int}{b:Int}{n:Int}{cmp:(za→za→Option Int)}{fk_cmp:Nat}{fc_cmp:List AV}(hf_cmp: ∀ {x0:za} {x1:za} {r:Int},cmp x0 x1=some r→XSpec Tryz.prog fk_cmp ((.agg (zk x0))::(.agg (zk x1))::fc_cmp) [] (I r) [] [])(hc_cmp:AV.closedL fc_cmp=true∧AV.onlyL [] fc_cmp=true){r:(List za)}(h:zR data a b n cmp=some r):XSpec Tryz.prog 272 [.sl 101 0 data.length,I a,I b,I n,.fn (.func fk_cmp) [] fc_cmp] [(101,.row 39 2 0 (F zk data))] (.tup []) [(101,.row 39 2 0 (F zk r))] []:=by
  unfold zR at h;refine zh Tryz.hU Tryz.func272 (fun _ _ _ hB=> ?_);refine z.j8.b.g ?_;refine zL (fun y1=>⟨[(0,.sl 101 0 y1.2.length),(1,I a),(2,I b),(3,I n),(10,I y1.1)],[(101,.row 39 2 0 (F zk y1.2))],[]⟩) (fun q8=>(.exit 0,⟨[],[(101,.row 39 2 0 (F zk q8))],[]⟩)) [(101,101)] hB h (fun y1 t h=> ?_) (fun q8 h=> ?_)
  · unfold qA at h;refine z.i5.g ?_;refine zn h (fun _ h=> ?_) (fun _ h=> ?_)
    · refine z.E.g ?_;refine ZR [21,23] (.q 0 (.q 1 (.q 2 (.q 3 (.q 8 (.q 9 (.q 10 (.q 11 (.q 12 (.q 13 (.q 14 (.q 15 (.q 16 (.q 17 (.q 18 (.q 19 (.q 20 (.s 4 (.s 5 (.s 6 (.alt 7 (.e 21 (.q 22 (.e 23 (.done)))) (.e 21 (.q 7 (.q 22 (.e 23 (.done)))))))))))))))))))))))))) hm ?_;refine z.d.m1.f6.e3.m1.f6.e3.g ?_;refine qf h (fun v2 ev2 h=> ?_);refine gq ?_;refine JB ev2 ?_;refine z.d.m1.f6.e3.g ?_;refine qf h (fun v3 ev3 h=> ?_);refine gq ?_;refine JB ev3 ?_;refine gq ?_;refine qf h (fun v4 ev4 h=> ?_);refine z.j5.j5.j5.g ?_;refine zV ?_ ?_
      · refine z.F.m1.n1.g ?_;refine JC ev4 h (fun v5 ev5 h=> ?_);refine m_relen 20 v5.length ?_;refine gq ?_;refine qf h (fun v6 ev6 h=> ?_);refine ge ?_;refine JC ev6 h (fun v7 ev7 h=> ?_);refine z.i7.e4.d2.g ?_;refine qO 0 v7.length ?_;exact zv [(101,101)] hB h
      refine ge ?_;refine JC ev4 h (fun v5 ev5 h=> ?_);refine z.m1.d.g ?_;refine m_relen 20 v5.length ?_;refine gq ?_;refine qf h (fun v6 ev6 h=> ?_);refine ge ?_;refine JC ev6 h (fun v7 ev7 h=> ?_);refine z.i7.e4.d2.g ?_;refine qO 0 v7.length ?_;exact zv [(101,101)] hB h
    refine z.m.g ?_;exact zr [(101,101)] hB h
  refine f_be ?_;apply zb [(101,101)] hB h
theorem Jz {data:(List za)}{a:Int}{m:Int}{b:Int}{cmp:(za→za→Option Int)}{fk_cmp:Nat}{fc_cmp:List AV}(hf_cmp: ∀ {x0:za} {x1:za} {r:Int},cmp x0 x1=some r→XSpec Tryz.prog fk_cmp ((.agg (zk x0))::(.agg (zk x1))::fc_cmp) [] (I r) [] [])(hc_cmp:AV.closedL fc_cmp=true∧AV.onlyL [] fc_cmp=true){r:(List za)}(h:qs data a m b cmp=some r):XSpec Tryz.prog 259 [.sl 101 0 data.length,I a,I m,I b,.fn (.func fk_cmp) [] fc_cmp] [(101,.row 39 2 0 (F zk data))] (.tup []) [(101,.row 39 2 0 (F zk r))] []:=by
  unfold qs at h;refine zh Tryz.hU Tryz.func259 (fun _ _ _ hB=> ?_);refine z.c6.J.U.B.U.h.g ?_;refine zL (fun y1=>⟨[(0,.sl 101 0 y1.2.2.length),(2,I m),(4,.fn (.func fk_cmp) [] fc_cmp),(10,I y1.1),(11,I y1.2.1)],[(101,.row 39 2 0 (F zk y1.2.2))],[]⟩) (fun q6=>(.exit 0,⟨[(0,.sl 101 0 q6.2.length),(2,I m),(4,.fn (.func fk_cmp) [] fc_cmp),(10,I q6.1)],[(101,.row 39 2 0 (F zk q6.2))],[]⟩)) [(101,101)] hB h (fun y1 t h=> ?_) (fun q6 h=> ?_)
  · unfold qv at h;refine z.i5.g ?_;refine zn h (fun _ h=> ?_) (fun _ h=> ?_)
    · refine z.t.h.j7.g ?_;refine zn h (fun _ h=> ?_) (fun _ h=> ?_)
      · refine z.j0.U.c.h.g ?_;refine zi (hargs:=by (simp only [List.nil_append,List.append_nil,List.cons_append,AV.mapNL,AV.mapN,zy hc_cmp.1];rfl)) (hon:=by (simp only [List.nil_append,List.append_nil,List.cons_append,AV.onlyL,AV.only,zH hc_cmp.1];rfl)) [] [101] h (fun _=>ZH (fun h=>hf_cmp h) hc_cmp) (fun v2 _ h=> ?_);refine JU h (fun ev3 h=> ?_);refine z.c4.U.p.e.g ?_;refine qO 0 v2.length ?_;exact zv [(101,101)] hB h
      refine z.k6.U.p7.k6.U.c.h.g ?_;refine zi (hargs:=by (simp only [List.nil_append,List.append_nil,List.cons_append,AV.mapNL,AV.mapN,zy hc_cmp.1];rfl)) (hon:=by (simp only [List.nil_append,List.append_nil,List.cons_append,AV.onlyL,AV.only,zH hc_cmp.1];rfl)) [] [101] h (fun _=>ZH (fun h=>hf_cmp h) hc_cmp) (fun v4 _ h=> ?_);refine JU h (fun ev5 h=> ?_);refine z.c4.U.p.e.g ?_;refine qO 0 v4.length ?_;exact zv [(101,101)] hB h
    refine z.m.g ?_;exact zr [(101,101)] hB h
  refine z.j0.U.c.p.w.g ?_;refine zi (hargs:=by (simp only [List.nil_append,List.append_nil,List.cons_append,AV.mapNL,AV.mapN,zy hc_cmp.1];rfl)) (hon:=by (simp only [List.nil_append,List.append_nil,List.cons_append,AV.onlyL,AV.only,zH hc_cmp.1];rfl)) [] [101] h (fun _=>ZH (fun h=>hf_cmp h) hc_cmp) (fun v7 _ h=> ?_);refine JU h (fun ev8 h=> ?_);refine k_nil ?_;apply zb [(101,101)] hB h
theorem slices_symMergeCmpFunc_Decl_F_ok {frec:((List za)→Int→Int→Int→(za→za→Option Int)→Option (List za))}(hrec: ∀ {data:(List za)} {a:Int} {m:Int} {b:Int} {cmp:(za→za→Option Int)} {fk_cmp:Nat} {fc_cmp:List AV} (hf_cmp: ∀ {x0:za} {x1:za} {r:Int},cmp x0 x1=some r→XSpec Tryz.prog fk_cmp ((.agg (zk x0))::(.agg (zk x1))::fc_cmp) [] (I r) [] []) (hc_cmp:AV.closedL fc_cmp=true∧AV.onlyL [] fc_cmp=true) {r:(List za)},frec data a m b cmp=some r→XSpec Tryz.prog 234 [.sl 101 0 data.length,I a,I m,I b,.fn (.func fk_cmp) [] fc_cmp] [(101,.row 39 2 0 (F zk data))] (.tup []) [(101,.row 39 2 0 (F zk r))] []){data:(List za)}{a:Int}{m:Int}{b:Int}{cmp:(za→za→Option Int)}{fk_cmp:Nat}{fc_cmp:List AV}(hf_cmp: ∀ {x0:za} {x1:za} {r:Int},cmp x0 x1=some r→XSpec Tryz.prog fk_cmp ((.agg (zk x0))::(.agg (zk x1))::fc_cmp) [] (I r) [] [])(hc_cmp:AV.closedL fc_cmp=true∧AV.onlyL [] fc_cmp=true){r:(List za)}(h:z7 frec data a m b cmp=some r):XSpec Tryz.prog 234 [.sl 101 0 data.length,I a,I m,I b,.fn (.func fk_cmp) [] fc_cmp] [(101,.row 39 2 0 (F zk data))] (.tup []) [(101,.row 39 2 0 (F zk r))] []:=by
  unfold z7 at h;refine zh Tryz.hU Tryz.func234 (fun _ _ _ hB=> ?_);refine z.t.U.l5.g ?_;refine zn h (fun _ h=> ?_) (fun _ h=> ?_)
  · refine z.c6.J.y.a.g ?_;refine zL (fun y1=>⟨[(0,.sl 101 0 data.length),(1,I a),(4,.fn (.func fk_cmp) [] fc_cmp),(10,I y1.1),(11,I y1.2)],[(101,.row 39 2 0 (F zk data))],[]⟩) (fun q5=>(.exit 0,⟨[(0,.sl 101 0 data.length),(1,I a),(10,I q5)],[(101,.row 39 2 0 (F zk data))],[]⟩)) [(101,101)] hB h (fun y1 t h=> ?_) (fun q5 h=> ?_)
    · unfold zW at h;refine z.i5.g ?_;refine zn h (fun _ h=> ?_) (fun _ h=> ?_)
      · refine z.h1.a1.h.j7.g ?_;refine Qz (r:=((v64 (w64 (y1.1+y1.2))).fdiv (2^1))) ?_;refine z.J.h1.g ?_;refine ZR [] (.q 0 (.q 1 (.q 2 (.q 3 (.q 4 (.q 5 (.q 6 (.q 7 (.q 8 (.e 9 (.q 10 (.done)))))))))))) hm ?_;refine z.f6.e3.g ?_;refine qf h (fun v2 ev2 h=> ?_);refine gq ?_;refine JB ev2 ?_;refine z.f6.g ?_;refine qf h (fun v3 ev3 h=> ?_);refine gq ?_;refine JB ev3 ?_;refine ge ?_;refine n_callF hc_cmp h (fun _=>hf_cmp) (fun v4 _ h=> ?_);refine z.j6.c8.d.g ?_;refine zn h (fun _ h=> ?_) (fun _ h=> ?_)
        · refine z.c4.a1.j.g ?_;exact zv [(101,101)] hB h
        refine z.c4.j.g ?_;exact zv [(101,101)] hB h
      refine z.m.g ?_;exact zr [(101,101)] hB h
    refine z.j8.R.w.g ?_;refine zL (fun y6=>⟨[(0,.sl 101 0 y6.2.length),(10,I q5),(13,I y6.1)],[(101,.row 39 2 0 (F zk y6.2))],[]⟩) (fun q13=>(.exit 2,⟨[],[(101,.row 39 2 0 (F zk q13))],[]⟩)) [(101,101)] hB h (fun y6 t h=> ?_) (fun q13 h=> ?_)
    · unfold zZ at h;refine z.t.U.l5.g ?_;refine zn h (fun _ h=> ?_) (fun _ h=> ?_)
      · refine z.E.g ?_;refine ZR [15,17] (.q 0 (.q 1 (.q 5 (.q 6 (.q 7 (.q 8 (.q 9 (.q 10 (.q 11 (.q 12 (.q 13 (.q 14 (.s 2 (.s 3 (.alt 4 (.e 15 (.q 16 (.e 17 (.done)))) (.e 15 (.q 4 (.q 16 (.e 17 (.done)))))))))))))))))))) hm ?_;refine z.d.m1.f6.e3.e3.g ?_;refine qf h (fun v7 ev7 h=> ?_);refine gq ?_;refine JB ev7 ?_;refine z.f6.g ?_;refine qf h (fun v8 ev8 h=> ?_);refine gq ?_;refine JB ev8 ?_;refine gq ?_;refine qf h (fun v9 ev9 h=> ?_);refine z.j5.j5.g ?_;refine zV ?_ ?_
        · refine z.F.m1.n1.g ?_;refine JC ev9 h (fun v10 ev10 h=> ?_);refine m_relen 63 v10.length ?_;refine gq ?_;refine qf h (fun v11 ev11 h=> ?_);refine ge ?_;refine JC ev11 h (fun v12 ev12 h=> ?_);refine z.i7.e4.d2.g ?_;refine qO 0 v12.length ?_;exact zv [(101,101)] hB h
        refine ge ?_;refine JC ev9 h (fun v10 ev10 h=> ?_);refine z.m1.d.g ?_;refine m_relen 63 v10.length ?_;refine gq ?_;refine qf h (fun v11 ev11 h=> ?_);refine ge ?_;refine JC ev11 h (fun v12 ev12 h=> ?_);refine z.i7.e4.d2.g ?_;refine qO 0 v12.length ?_;exact zv [(101,101)] hB h
      refine z.m.g ?_;exact zr [(101,101)] hB h
    refine z.i3.k8.w.g ?_;apply zb [(101,101)] hB h
  refine z.t.U.h.e7.g ?_;refine zn h (fun _ h=> ?_) (fun _ h=> ?_)
  · refine z.c6.J.y.a.g ?_;refine zL (fun y14=>⟨[(0,.sl 101 0 data.length),(2,I m),(4,.fn (.func fk_cmp) [] fc_cmp),(14,I y14.1),(15,I y14.2)],[(101,.row 39 2 0 (F zk data))],[]⟩) (fun q18=>(.exit 4,⟨[(0,.sl 101 0 data.length),(2,I m),(14,I q18)],[(101,.row 39 2 0 (F zk data))],[]⟩)) [(101,101)] hB h (fun y14 t h=> ?_) (fun q18 h=> ?_)
    · unfold zX at h;refine z.i5.g ?_;refine zn h (fun _ h=> ?_) (fun _ h=> ?_)
      · refine z.h1.a1.h.j7.g ?_;refine Qz (r:=((v64 (w64 (y14.1+y14.2))).fdiv (2^1))) ?_;refine z.J.h1.g ?_;refine ZR [] (.q 0 (.q 1 (.q 2 (.q 3 (.q 4 (.q 5 (.q 6 (.q 7 (.q 8 (.e 9 (.q 10 (.q 11 (.done))))))))))))) hm ?_;refine z.f6.e3.g ?_;refine qf h (fun v15 ev15 h=> ?_);refine gq ?_;refine JB ev15 ?_;refine z.f6.g ?_;refine qf h (fun v16 ev16 h=> ?_);refine gq ?_;refine JB ev16 ?_;refine ge ?_;refine n_callF hc_cmp h (fun _=>hf_cmp) (fun v17 _ h=> ?_);refine z.j6.p8.d.c8.d.g ?_;refine zn h (fun _ h=> ?_) (fun _ h=> ?_)
        · refine z.c4.a1.j.g ?_;exact zv [(101,101)] hB h
        refine z.c4.j.g ?_;exact zv [(101,101)] hB h
      refine z.m.g ?_;exact zr [(101,101)] hB h
    refine z.j8.R.w.g ?_;refine zL (fun y19=>⟨[(0,.sl 101 0 y19.2.length),(14,I q18),(17,I y19.1)],[(101,.row 39 2 0 (F zk y19.2))],[]⟩) (fun q26=>(.exit 6,⟨[],[(101,.row 39 2 0 (F zk q26))],[]⟩)) [(101,101)] hB h (fun y19 t h=> ?_) (fun q26 h=> ?_)
    · unfold zY at h;refine z.i5.g ?_;refine zn h (fun _ h=> ?_) (fun _ h=> ?_)
      · refine z.E.g ?_;refine ZR [15,17] (.q 0 (.q 1 (.q 5 (.q 6 (.q 7 (.q 8 (.q 9 (.q 10 (.q 11 (.q 12 (.q 13 (.q 14 (.s 2 (.s 3 (.alt 4 (.e 15 (.q 16 (.e 17 (.done)))) (.e 15 (.q 4 (.q 16 (.e 17 (.done)))))))))))))))))))) hm ?_;refine z.d.l6.f6.e3.e3.g ?_;refine qf h (fun v20 ev20 h=> ?_);refine gq ?_;refine JB ev20 ?_;refine z.f6.g ?_;refine qf h (fun v21 ev21 h=> ?_);refine gq ?_;refine JB ev21 ?_;refine gq ?_;refine qf h (fun v22 ev22 h=> ?_);refine z.j5.j5.g ?_;refine zV ?_ ?_
        · refine z.F.l6.n1.g ?_;refine JC ev22 h (fun v23 ev23 h=> ?_);refine m_relen 115 v23.length ?_;refine gq ?_;refine qf h (fun v24 ev24 h=> ?_);refine ge ?_;refine JC ev24 h (fun v25 ev25 h=> ?_);refine z.G.U.e4.d2.g ?_;refine qO 0 v25.length ?_;exact zv [(101,101)] hB h
        refine ge ?_;refine JC ev22 h (fun v23 ev23 h=> ?_);refine z.l6.d.g ?_;refine m_relen 115 v23.length ?_;refine gq ?_;refine qf h (fun v24 ev24 h=> ?_);refine ge ?_;refine JC ev24 h (fun v25 ev25 h=> ?_);refine z.G.U.e4.d2.g ?_;refine qO 0 v25.length ?_;exact zv [(101,101)] hB h
      refine z.m.g ?_;exact zr [(101,101)] hB h
    refine z.i3.k8.w.g ?_;apply zb [(101,101)] hB h
  refine z.h1.a1.f5.g ?_;refine Qz (r:=((v64 (w64 (a+b))).fdiv (2^1))) ?_;refine z.t.h.J.a7.l.a1.B.h1.g ?_;refine zn h (fun _ h=> ?_) (fun _ h=> ?_)
  · refine z.c6.J.U.y.j.l.U.h.g ?_;refine zL (fun y27=>⟨[(0,.sl 101 0 data.length),(1,I a),(2,I m),(3,I b),(4,.fn (.func fk_cmp) [] fc_cmp),(18,I (w64 ((v64 (w64 (a+b))).fdiv (2^1)))),(19,I (w64 ((w64 ((v64 (w64 (a+b))).fdiv (2^1)))+m))),(20,I y27.1),(21,I y27.2),(22,I (w64 ((w64 ((w64 ((v64 (w64 (a+b))).fdiv (2^1)))+m))-1)))],[(101,.row 39 2 0 (F zk data))],[]⟩) (fun q31=>(.exit 8,⟨[(0,.sl 101 0 data.length),(1,I a),(2,I m),(3,I b),(4,.fn (.func fk_cmp) [] fc_cmp),(18,I q31.1),(19,I q31.2.1),(20,I q31.2.2)],[(101,.row 39 2 0 (F zk data))],[]⟩)) [(101,101)] hB h (fun y27 t h=> ?_) (fun q31 h=> ?_)
    · unfold zO at h;refine z.i5.g ?_;refine zn h (fun _ h=> ?_) (fun _ h=> ?_)
      · refine z.h1.a1.h.j7.g ?_;refine Qz (r:=((v64 (w64 (y27.1+y27.2))).fdiv (2^1))) ?_;refine z.J.h1.g ?_;refine ZR [] (.q 0 (.q 1 (.q 2 (.q 3 (.q 4 (.q 5 (.q 6 (.q 7 (.q 8 (.q 9 (.q 10 (.e 11 (.q 12 (.q 13 (.done))))))))))))))) hm ?_;refine z.d.l6.f6.e3.e3.g ?_;refine qf h (fun v28 ev28 h=> ?_);refine gq ?_;refine JB ev28 ?_;refine z.f6.g ?_;refine qf h (fun v29 ev29 h=> ?_);refine gq ?_;refine JB ev29 ?_;refine ge ?_;refine n_callF hc_cmp h (fun _=>hf_cmp) (fun v30 _ h=> ?_);refine z.j6.p8.d.c8.d.g ?_;refine zn h (fun _ h=> ?_) (fun _ h=> ?_)
        · refine z.c4.a1.j.g ?_;exact zv [(101,101)] hB h
        refine z.c4.j.g ?_;exact zv [(101,101)] hB h
      refine z.m.g ?_;exact zr [(101,101)] hB h
    refine z.e8.U.h.w.g ?_;refine Zq (fun q32=>(.normal,⟨[(0,.sl 101 0 data.length),(1,I a),(2,I m),(3,I b),(4,.fn (.func fk_cmp) [] fc_cmp),(18,I q31.1),(20,I q31.2.2),(24,I (w64 (q31.2.1-q31.2.2))),(185,B q32)],[(101,.row 39 2 0 (F zk data))],[]⟩)) h (fun t h=> ?_) (fun q32 h=> ?_)
    · refine z.u.p.g ?_;refine zc h (fun _ h=> ?_) (fun _ h=> ?_)
      · refine z.S.x.s.g ?_;exact zp [(101,101)] hB h
      refine z.c3.i.g ?_;exact zp [(101,101)] hB h
    refine f_t ?_;refine zn h (fun _ h=> ?_) (fun _ h=> ?_)
    · refine z.j0.p.g ?_;refine zi (hargs:=by (simp only [List.nil_append,List.append_nil,List.cons_append,AV.mapNL,AV.mapN,zy hc_cmp.1];rfl)) (hon:=by (simp only [List.nil_append,List.append_nil,List.cons_append,AV.onlyL,AV.only,zH hc_cmp.1];rfl)) [] [101] h (fun _=>Jz (fun h=>hf_cmp h) hc_cmp) (fun v33 _ h=> ?_);refine JU h (fun ev41 h=> ?_);refine z.V.V.e.g ?_;refine Zq (fun q34=>(.normal,⟨[(0,.sl 101 0 v33.length),(1,I a),(3,I b),(4,.fn (.func fk_cmp) [] fc_cmp),(18,I q31.1),(20,I q31.2.2),(24,I (w64 (q31.2.1-q31.2.2))),(199,B q34)],[(101,.row 39 2 0 (F zk v33))],[]⟩)) h (fun t h=> ?_) (fun q34 h=> ?_)
      · refine z.u.p.g ?_;refine zc h (fun _ h=> ?_) (fun _ h=> ?_)
        · refine z.S.x.s.g ?_;refine qO 0 v33.length ?_;exact zp [(101,101)] hB h
        refine z.c3.i.g ?_;refine qO 0 v33.length ?_;exact zp [(101,101)] hB h
      refine f_t ?_;refine zn h (fun _ h=> ?_) (fun _ h=> ?_)
      · refine z.j0.p.g ?_;refine zi (hargs:=by (simp only [List.nil_append,List.append_nil,List.cons_append,AV.mapNL,AV.mapN,zy hc_cmp.1];rfl)) (hon:=by (simp only [List.nil_append,List.append_nil,List.cons_append,AV.onlyL,AV.only,zH hc_cmp.1];rfl)) [] [101] h (fun _=>hrec (fun h=>hf_cmp h) hc_cmp) (fun v35 _ h=> ?_);refine JU h (fun ev38 h=> ?_);refine z.u.h.e.g ?_;refine zc h (fun _ h=> ?_) (fun _ h=> ?_)
        · refine z.h4.x.s.g ?_;refine zn h (fun _ h=> ?_) (fun _ h=> ?_)
          · refine z.j0.p.g ?_;refine l_relen 214 v35.length ?_;refine zi (hargs:=by (simp only [List.nil_append,List.append_nil,List.cons_append,AV.mapNL,AV.mapN,zy hc_cmp.1];rfl)) (hon:=by (simp only [List.nil_append,List.append_nil,List.cons_append,AV.onlyL,AV.only,zH hc_cmp.1];rfl)) [] [101] h (fun _=>hrec (fun h=>hf_cmp h) hc_cmp) (fun v36 _ h=> ?_);refine JU h (fun ev37 h=> ?_);refine k_nil ?_;apply zb [(101,101)] hB h
          refine k_skip ?_;apply zb [(101,101)] hB h
        refine z.X.f4.i.g ?_;apply zb [(101,101)] hB h
      refine z.u.f5.g ?_;refine zc h (fun _ h=> ?_) (fun _ h=> ?_)
      · refine z.h4.x.s.g ?_;refine zn h (fun _ h=> ?_) (fun _ h=> ?_)
        · refine z.j0.p.g ?_;refine zi (hargs:=by (simp only [List.nil_append,List.append_nil,List.cons_append,AV.mapNL,AV.mapN,zy hc_cmp.1];rfl)) (hon:=by (simp only [List.nil_append,List.append_nil,List.cons_append,AV.onlyL,AV.only,zH hc_cmp.1];rfl)) [] [101] h (fun _=>hrec (fun h=>hf_cmp h) hc_cmp) (fun v39 _ h=> ?_);refine JU h (fun ev40 h=> ?_);refine k_nil ?_;apply zb [(101,101)] hB h
        refine k_skip ?_;apply zb [(101,101)] hB h
      refine z.X.f4.i.g ?_;apply zb [(101,101)] hB h
    refine z.V.e7.g ?_;refine Zq (fun q42=>(.normal,⟨[(0,.sl 101 0 data.length),(1,I a),(3,I b),(4,.fn (.func fk_cmp) [] fc_cmp),(18,I q31.1),(20,I q31.2.2),(24,I (w64 (q31.2.1-q31.2.2))),(199,B q42)],[(101,.row 39 2 0 (F zk data))],[]⟩)) h (fun t h=> ?_) (fun q42 h=> ?_)
    · refine z.u.p.g ?_;refine zc h (fun _ h=> ?_) (fun _ h=> ?_)
      · refine z.S.x.s.g ?_;exact zp [(101,101)] hB h
      refine z.c3.i.g ?_;exact zp [(101,101)] hB h
    refine f_t ?_;refine zn h (fun _ h=> ?_) (fun _ h=> ?_)
    · refine z.j0.p.g ?_;refine zi (hargs:=by (simp only [List.nil_append,List.append_nil,List.cons_append,AV.mapNL,AV.mapN,zy hc_cmp.1];rfl)) (hon:=by (simp only [List.nil_append,List.append_nil,List.cons_append,AV.onlyL,AV.only,zH hc_cmp.1];rfl)) [] [101] h (fun _=>hrec (fun h=>hf_cmp h) hc_cmp) (fun v43 _ h=> ?_);refine JU h (fun ev46 h=> ?_);refine z.u.h.e.g ?_;refine zc h (fun _ h=> ?_) (fun _ h=> ?_)
      · refine z.h4.x.s.g ?_;refine zn h (fun _ h=> ?_) (fun _ h=> ?_)
        · refine z.j0.p.g ?_;refine l_relen 214 v43.length ?_;refine zi (hargs:=by (simp only [List.nil_append,List.append_nil,List.cons_append,AV.mapNL,AV.mapN,zy hc_cmp.1];rfl)) (hon:=by (simp only [List.nil_append,List.append_nil,List.cons_append,AV.onlyL,AV.only,zH hc_cmp.1];rfl)) [] [101] h (fun _=>hrec (fun h=>hf_cmp h) hc_cmp) (fun v44 _ h=> ?_);refine JU h (fun ev45 h=> ?_);refine k_nil ?_;apply zb [(101,101)] hB h
        refine k_skip ?_;apply zb [(101,101)] hB h
      refine z.X.f4.i.g ?_;apply zb [(101,101)] hB h
    refine z.u.f5.g ?_;refine zc h (fun _ h=> ?_) (fun _ h=> ?_)
    · refine z.h4.x.s.g ?_;refine zn h (fun _ h=> ?_) (fun _ h=> ?_)
      · refine z.j0.p.g ?_;refine zi (hargs:=by (simp only [List.nil_append,List.append_nil,List.cons_append,AV.mapNL,AV.mapN,zy hc_cmp.1];rfl)) (hon:=by (simp only [List.nil_append,List.append_nil,List.cons_append,AV.onlyL,AV.only,zH hc_cmp.1];rfl)) [] [101] h (fun _=>hrec (fun h=>hf_cmp h) hc_cmp) (fun v47 _ h=> ?_);refine JU h (fun ev48 h=> ?_);refine k_nil ?_;apply zb [(101,101)] hB h
      refine k_skip ?_;apply zb [(101,101)] hB h
    refine z.X.f4.i.g ?_;apply zb [(101,101)] hB h
  refine z.c6.J.U.y.j.l.a.g ?_;refine zL (fun y49=>⟨[(0,.sl 101 0 data.length),(1,I a),(2,I m),(3,I b),(4,.fn (.func fk_cmp) [] fc_cmp),(18,I (w64 ((v64 (w64 (a+b))).fdiv (2^1)))),(19,I (w64 ((w64 ((v64 (w64 (a+b))).fdiv (2^1)))+m))),(20,I y49.1),(21,I y49.2),(22,I (w64 ((w64 ((w64 ((v64 (w64 (a+b))).fdiv (2^1)))+m))-1)))],[(101,.row 39 2 0 (F zk data))],[]⟩) (fun q53=>(.exit 8,⟨[(0,.sl 101 0 data.length),(1,I a),(2,I m),(3,I b),(4,.fn (.func fk_cmp) [] fc_cmp),(18,I q53.1),(19,I q53.2.1),(20,I q53.2.2)],[(101,.row 39 2 0 (F zk data))],[]⟩)) [(101,101)] hB h (fun y49 t h=> ?_) (fun q53 h=> ?_)
  · unfold qZ at h;refine z.i5.g ?_;refine zn h (fun _ h=> ?_) (fun _ h=> ?_)
    · refine z.h1.a1.h.j7.g ?_;refine Qz (r:=((v64 (w64 (y49.1+y49.2))).fdiv (2^1))) ?_;refine z.J.h1.g ?_;refine ZR [] (.q 0 (.q 1 (.q 2 (.q 3 (.q 4 (.q 5 (.q 6 (.q 7 (.q 8 (.q 9 (.q 10 (.e 11 (.q 12 (.q 13 (.done))))))))))))))) hm ?_;refine z.d.l6.f6.e3.e3.g ?_;refine qf h (fun v50 ev50 h=> ?_);refine gq ?_;refine JB ev50 ?_;refine z.f6.g ?_;refine qf h (fun v51 ev51 h=> ?_);refine gq ?_;refine JB ev51 ?_;refine ge ?_;refine n_callF hc_cmp h (fun _=>hf_cmp) (fun v52 _ h=> ?_);refine z.j6.p8.d.c8.d.g ?_;refine zn h (fun _ h=> ?_) (fun _ h=> ?_)
      · refine z.c4.a1.j.g ?_;exact zv [(101,101)] hB h
      refine z.c4.j.g ?_;exact zv [(101,101)] hB h
    refine z.m.g ?_;exact zr [(101,101)] hB h
  refine z.e8.U.h.w.g ?_;refine Zq (fun q54=>(.normal,⟨[(0,.sl 101 0 data.length),(1,I a),(2,I m),(3,I b),(4,.fn (.func fk_cmp) [] fc_cmp),(18,I q53.1),(20,I q53.2.2),(24,I (w64 (q53.2.1-q53.2.2))),(185,B q54)],[(101,.row 39 2 0 (F zk data))],[]⟩)) h (fun t h=> ?_) (fun q54 h=> ?_)
  · refine z.u.p.g ?_;refine zc h (fun _ h=> ?_) (fun _ h=> ?_)
    · refine z.S.x.s.g ?_;exact zp [(101,101)] hB h
    refine z.c3.i.g ?_;exact zp [(101,101)] hB h
  refine f_t ?_;refine zn h (fun _ h=> ?_) (fun _ h=> ?_)
  · refine z.j0.p.g ?_;refine zi (hargs:=by (simp only [List.nil_append,List.append_nil,List.cons_append,AV.mapNL,AV.mapN,zy hc_cmp.1];rfl)) (hon:=by (simp only [List.nil_append,List.append_nil,List.cons_append,AV.onlyL,AV.only,zH hc_cmp.1];rfl)) [] [101] h (fun _=>Jz (fun h=>hf_cmp h) hc_cmp) (fun v55 _ h=> ?_);refine JU h (fun ev63 h=> ?_);refine z.V.V.e.g ?_;refine Zq (fun q56=>(.normal,⟨[(0,.sl 101 0 v55.length),(1,I a),(3,I b),(4,.fn (.func fk_cmp) [] fc_cmp),(18,I q53.1),(20,I q53.2.2),(24,I (w64 (q53.2.1-q53.2.2))),(199,B q56)],[(101,.row 39 2 0 (F zk v55))],[]⟩)) h (fun t h=> ?_) (fun q56 h=> ?_)
    · refine z.u.p.g ?_;refine zc h (fun _ h=> ?_) (fun _ h=> ?_)
      · refine z.S.x.s.g ?_;refine qO 0 v55.length ?_;exact zp [(101,101)] hB h
      refine z.c3.i.g ?_;refine qO 0 v55.length ?_;exact zp [(101,101)] hB h
    refine f_t ?_;refine zn h (fun _ h=> ?_) (fun _ h=> ?_)
    · refine z.j0.p.g ?_;refine zi (hargs:=by (simp only [List.nil_append,List.append_nil,List.cons_append,AV.mapNL,AV.mapN,zy hc_cmp.1];rfl)) (hon:=by (simp only [List.nil_append,List.append_nil,List.cons_append,AV.onlyL,AV.only,zH hc_cmp.1];rfl)) [] [101] h (fun _=>hrec (fun h=>hf_cmp h) hc_cmp) (fun v57 _ h=> ?_);refine JU h (fun ev60 h=> ?_);refine z.u.h.e.g ?_;refine zc h (fun _ h=> ?_) (fun _ h=> ?_)
      · refine z.h4.x.s.g ?_;refine zn h (fun _ h=> ?_) (fun _ h=> ?_)
        · refine z.j0.p.g ?_;refine l_relen 214 v57.length ?_;refine zi (hargs:=by (simp only [List.nil_append,List.append_nil,List.cons_append,AV.mapNL,AV.mapN,zy hc_cmp.1];rfl)) (hon:=by (simp only [List.nil_append,List.append_nil,List.cons_append,AV.onlyL,AV.only,zH hc_cmp.1];rfl)) [] [101] h (fun _=>hrec (fun h=>hf_cmp h) hc_cmp) (fun v58 _ h=> ?_);refine JU h (fun ev59 h=> ?_);refine k_nil ?_;apply zb [(101,101)] hB h
        refine k_skip ?_;apply zb [(101,101)] hB h
      refine z.X.f4.i.g ?_;apply zb [(101,101)] hB h
    refine z.u.f5.g ?_;refine zc h (fun _ h=> ?_) (fun _ h=> ?_)
    · refine z.h4.x.s.g ?_;refine zn h (fun _ h=> ?_) (fun _ h=> ?_)
      · refine z.j0.p.g ?_;refine zi (hargs:=by (simp only [List.nil_append,List.append_nil,List.cons_append,AV.mapNL,AV.mapN,zy hc_cmp.1];rfl)) (hon:=by (simp only [List.nil_append,List.append_nil,List.cons_append,AV.onlyL,AV.only,zH hc_cmp.1];rfl)) [] [101] h (fun _=>hrec (fun h=>hf_cmp h) hc_cmp) (fun v61 _ h=> ?_);refine JU h (fun ev62 h=> ?_);refine k_nil ?_;apply zb [(101,101)] hB h
      refine k_skip ?_;apply zb [(101,101)] hB h
    refine z.X.f4.i.g ?_;apply zb [(101,101)] hB h
  refine z.V.e7.g ?_;refine Zq (fun q64=>(.normal,⟨[(0,.sl 101 0 data.length),(1,I a),(3,I b),(4,.fn (.func fk_cmp) [] fc_cmp),(18,I q53.1),(20,I q53.2.2),(24,I (w64 (q53.2.1-q53.2.2))),(199,B q64)],[(101,.row 39 2 0 (F zk data))],[]⟩)) h (fun t h=> ?_) (fun q64 h=> ?_)
  · refine z.u.p.g ?_;refine zc h (fun _ h=> ?_) (fun _ h=> ?_)
    · refine z.S.x.s.g ?_;exact zp [(101,101)] hB h
    refine z.c3.i.g ?_;exact zp [(101,101)] hB h
  refine f_t ?_;refine zn h (fun _ h=> ?_) (fun _ h=> ?_)
  · refine z.j0.p.g ?_;refine zi (hargs:=by (simp only [List.nil_append,List.append_nil,List.cons_append,AV.mapNL,AV.mapN,zy hc_cmp.1];rfl)) (hon:=by (simp only [List.nil_append,List.append_nil,List.cons_append,AV.onlyL,AV.only,zH hc_cmp.1];rfl)) [] [101] h (fun _=>hrec (fun h=>hf_cmp h) hc_cmp) (fun v65 _ h=> ?_);refine JU h (fun ev68 h=> ?_);refine z.u.h.e.g ?_;refine zc h (fun _ h=> ?_) (fun _ h=> ?_)
    · refine z.h4.x.s.g ?_;refine zn h (fun _ h=> ?_) (fun _ h=> ?_)
      · refine z.j0.p.g ?_;refine l_relen 214 v65.length ?_;refine zi (hargs:=by (simp only [List.nil_append,List.append_nil,List.cons_append,AV.mapNL,AV.mapN,zy hc_cmp.1];rfl)) (hon:=by (simp only [List.nil_append,List.append_nil,List.cons_append,AV.onlyL,AV.only,zH hc_cmp.1];rfl)) [] [101] h (fun _=>hrec (fun h=>hf_cmp h) hc_cmp) (fun v66 _ h=> ?_);refine JU h (fun ev67 h=> ?_);refine k_nil ?_;apply zb [(101,101)] hB h
      refine k_skip ?_;apply zb [(101,101)] hB h
    refine z.X.f4.i.g ?_;apply zb [(101,101)] hB h
  refine z.u.f5.g ?_;refine zc h (fun _ h=> ?_) (fun _ h=> ?_)
  · refine z.h4.x.s.g ?_;refine zn h (fun _ h=> ?_) (fun _ h=> ?_)
    · refine z.j0.p.g ?_;refine zi (hargs:=by (simp only [List.nil_append,List.append_nil,List.cons_append,AV.mapNL,AV.mapN,zy hc_cmp.1];rfl)) (hon:=by (simp only [List.nil_append,List.append_nil,List.cons_append,AV.onlyL,AV.only,zH hc_cmp.1];rfl)) [] [101] h (fun _=>hrec (fun h=>hf_cmp h) hc_cmp) (fun v69 _ h=> ?_);refine JU h (fun ev70 h=> ?_);refine k_nil ?_;apply zb [(101,101)] hB h
    refine k_skip ?_;apply zb [(101,101)] hB h
  refine z.X.f4.i.g ?_;apply zb [(101,101)] hB h
theorem slices_symMergeCmpFunc_Decl_n_ok: ∀ (fuel:Nat) {data:(List za)} {a:Int} {m:Int} {b:Int} {cmp:(za→za→Option Int)} {fk_cmp:Nat} {fc_cmp:List AV} (hf_cmp: ∀ {x0:za} {x1:za} {r:Int},cmp x0 x1=some r→XSpec Tryz.prog fk_cmp ((.agg (zk x0))::(.agg (zk x1))::fc_cmp) [] (I r) [] []) (hc_cmp:AV.closedL fc_cmp=true∧AV.onlyL [] fc_cmp=true) {r:(List za)} (h:zx fuel data a m b cmp=some r),XSpec Tryz.prog 234 [.sl 101 0 data.length,I a,I m,I b,.fn (.func fk_cmp) [] fc_cmp] [(101,.row 39 2 0 (F zk data))] (.tup []) [(101,.row 39 2 0 (F zk r))] []:=by
  intro fuel
  induction fuel with
  |zero=>intro data a m b cmp fk_cmp fc_cmp hf_cmp hc_cmp r h;cases h
  |succ fuel ih=>
    intro data a m b cmp fk_cmp fc_cmp hf_cmp hc_cmp r h
    refine slices_symMergeCmpFunc_Decl_F_ok (frec:=zx fuel) ?_ (fun h=>hf_cmp h) hc_cmp h;exact @ih
theorem Q5 {data:(List za)}{a:Int}{m:Int}{b:Int}{cmp:(za→za→Option Int)}{fk_cmp:Nat}{fc_cmp:List AV}(hf_cmp: ∀ {x0:za} {x1:za} {r:Int},cmp x0 x1=some r→XSpec Tryz.prog fk_cmp ((.agg (zk x0))::(.agg (zk x1))::fc_cmp) [] (I r) [] [])(hc_cmp:AV.closedL fc_cmp=true∧AV.onlyL [] fc_cmp=true){r:(List za)}(h:qg data a m b cmp=some r):XSpec Tryz.prog 234 [.sl 101 0 data.length,I a,I m,I b,.fn (.func fk_cmp) [] fc_cmp] [(101,.row 39 2 0 (F zk data))] (.tup []) [(101,.row 39 2 0 (F zk r))] []:=by
  obtain ⟨fuel,h⟩:=lim_some h;exact slices_symMergeCmpFunc_Decl_n_ok fuel (fun h=>hf_cmp h) hc_cmp h
theorem slices_stableCmpFunc_Decl_ok {data:(List za)}{n:Int}{cmp:(za→za→Option Int)}{fk_cmp:Nat}{fc_cmp:List AV}(hf_cmp: ∀ {x0:za} {x1:za} {r:Int},cmp x0 x1=some r→XSpec Tryz.prog fk_cmp ((.agg (zk x0))::(.agg (zk x1))::fc_cmp) [] (I r) [] [])(hc_cmp:AV.closedL fc_cmp=true∧AV.onlyL [] fc_cmp=true){r:(List za)}(h:qt data n cmp=some r):XSpec Tryz.prog 191 [.sl 101 0 data.length,I n,.fn (.func fk_cmp) [] fc_cmp] [(101,.row 39 2 0 (F zk data))] (.tup []) [(101,.row 39 2 0 (F zk r))] []:=by
  unfold qt at h;refine zh Tryz.hU Tryz.func191 (fun _ _ _ hB=> ?_);refine z.c6.J.D.a6.g ?_;refine zL (fun y1=>⟨[(0,.sl 101 0 y1.2.2.length),(1,I n),(2,.fn (.func fk_cmp) [] fc_cmp),(6,I 20),(7,I y1.1),(8,I y1.2.1)],[(101,.row 39 2 0 (F zk y1.2.2))],[]⟩) (fun q4=>(.exit 0,⟨[(0,.sl 101 0 q4.2.length),(1,I n),(2,.fn (.func fk_cmp) [] fc_cmp),(6,I 20),(7,I q4.1)],[(101,.row 39 2 0 (F zk q4.2))],[]⟩)) [(101,101)] hB h (fun y1 t h=> ?_) (fun q4 h=> ?_)
  · unfold zB at h;refine z.i5.g ?_;refine zn h (fun _ h=> ?_) (fun _ h=> ?_)
    · refine z.k6.h.j7.g ?_;refine zi (hargs:=by (simp only [List.nil_append,List.append_nil,List.cons_append,AV.mapNL,AV.mapN,zy hc_cmp.1];rfl)) (hon:=by (simp only [List.nil_append,List.append_nil,List.cons_append,AV.onlyL,AV.only,zH hc_cmp.1];rfl)) [] [101] h (fun _=>Ql (fun h=>hf_cmp h) hc_cmp) (fun v2 _ h=> ?_);refine JU h (fun ev3 h=> ?_);refine z.c4.a1.p.l.c5.g ?_;refine qO 0 v2.length ?_;exact zv [(101,101)] hB h
    refine z.m.g ?_;exact zr [(101,101)] hB h
  refine z.k6.h.w.g ?_;refine zi (hargs:=by (simp only [List.nil_append,List.append_nil,List.cons_append,AV.mapNL,AV.mapN,zy hc_cmp.1];rfl)) (hon:=by (simp only [List.nil_append,List.append_nil,List.cons_append,AV.onlyL,AV.only,zH hc_cmp.1];rfl)) [] [101] h (fun _=>Ql (fun h=>hf_cmp h) hc_cmp) (fun v5 _ h=> ?_);refine JU h (fun ev14 h=> ?_);refine z.l8.g ?_;refine k_relen 0 v5.length ?_;refine zL (fun y6=>⟨[(0,.sl 101 0 y6.2.length),(1,I n),(2,.fn (.func fk_cmp) [] fc_cmp),(6,I y6.1)],[(101,.row 39 2 0 (F zk y6.2))],[]⟩) (fun q13=>(.exit 2,⟨[],[(101,.row 39 2 0 (F zk q13))],[]⟩)) [(101,101)] hB h (fun y6 t h=> ?_) (fun q13 h=> ?_)
  · unfold zJ at h;refine z.i5.g ?_;refine zn h (fun _ h=> ?_) (fun _ h=> ?_)
    · refine z.c6.J.D.m2.a.j7.g ?_;refine zL (fun y7=>⟨[(0,.sl 101 0 y7.2.2.length),(1,I n),(2,.fn (.func fk_cmp) [] fc_cmp),(6,I y6.1),(7,I y7.1),(8,I y7.2.1)],[(101,.row 39 2 0 (F zk y7.2.2))],[]⟩) (fun q10=>(.exit 4,⟨[(0,.sl 101 0 q10.2.length),(1,I n),(2,.fn (.func fk_cmp) [] fc_cmp),(6,I y6.1),(7,I q10.1)],[(101,.row 39 2 0 (F zk q10.2))],[]⟩)) [(101,101)] hB h (fun y7 t h=> ?_) (fun q10 h=> ?_)
      · unfold zK at h;refine z.i5.g ?_;refine zn h (fun _ h=> ?_) (fun _ h=> ?_)
        · refine z.c.p7.k6.h.j7.g ?_;refine zi (hargs:=by (simp only [List.nil_append,List.append_nil,List.cons_append,AV.mapNL,AV.mapN,zy hc_cmp.1];rfl)) (hon:=by (simp only [List.nil_append,List.append_nil,List.cons_append,AV.onlyL,AV.only,zH hc_cmp.1];rfl)) [] [101] h (fun _=>Q5 (fun h=>hf_cmp h) hc_cmp) (fun v8 _ h=> ?_);refine JU h (fun ev9 h=> ?_);refine z.c4.a1.m2.p.l.c5.g ?_;refine qO 0 v8.length ?_;exact zv [(101,101)] hB h
        refine z.m.g ?_;exact zr [(101,101)] hB h
      refine z.t.B.a1.l5.w.g ?_;refine zn h (fun _ h=> ?_) (fun _ h=> ?_)
      · refine z.j0.p.g ?_;refine zi (hargs:=by (simp only [List.nil_append,List.append_nil,List.cons_append,AV.mapNL,AV.mapN,zy hc_cmp.1];rfl)) (hon:=by (simp only [List.nil_append,List.append_nil,List.cons_append,AV.onlyL,AV.only,zH hc_cmp.1];rfl)) [] [101] h (fun _=>Q5 (fun h=>hf_cmp h) hc_cmp) (fun v11 _ h=> ?_);refine JU h (fun ev12 h=> ?_);refine z.c4.m2.j.e.g ?_;refine qO 0 v11.length ?_;exact zv [(101,101)] hB h
      refine z.c4.m2.j.L.g ?_;exact zv [(101,101)] hB h
    refine z.m.g ?_;exact zr [(101,101)] hB h
  refine f_be ?_;apply zb [(101,101)] hB h
theorem slices_SortStableFunc_Decl_ok {x:(List za)}{cmp:(za→za→Option Int)}{fk_cmp:Nat}{fc_cmp:List AV}(hf_cmp: ∀ {x0:za} {x1:za} {r:Int},cmp x0 x1=some r→XSpec Tryz.prog fk_cmp ((.agg (zk x0))::(.agg (zk x1))::fc_cmp) [] (I r) [] [])(hc_cmp:AV.closedL fc_cmp=true∧AV.onlyL [] fc_cmp=true){r:(List za)}(h:qo x cmp=some r):XSpec Tryz.prog 134 [.sl 101 0 x.length,.fn (.func fk_cmp) [] fc_cmp] [(101,.row 39 2 0 (F zk x))] (.tup []) [(101,.row 39 2 0 (F zk r))] []:=by
  unfold qo at h;refine zh Tryz.hU Tryz.func134 (fun _ _ _ hB=> ?_);refine z.c.O.p.g ?_;refine zi (hargs:=by (simp only [List.nil_append,List.append_nil,List.cons_append,AV.mapNL,AV.mapN,zy hc_cmp.1];rfl)) (hon:=by (simp only [List.nil_append,List.append_nil,List.cons_append,AV.onlyL,AV.only,zH hc_cmp.1];rfl)) [] [101] h (fun _=>slices_stableCmpFunc_Decl_ok (fun h=>hf_cmp h) hc_cmp) (fun v1 _ h=> ?_);refine JU h (fun ev2 h=> ?_);refine k_nil ?_;apply zb [(101,101)] hB h
theorem cmp_isNaN_string_ok {x:Str}{r:Bool}(h:Q8 x=some r):XSpec Tryz.prog 192 [S x] [] (B r) [] []:=by
  unfold Q8 at h;refine zh Tryz.hU Tryz.func192 (fun _ _ _ hB=> ?_);refine z.k.i2.B.b.g ?_;apply zb [] hB h
theorem cmp_Compare_string_ok {x:Str}{y_:Str}{r:Int}(h:qT x y_=some r):XSpec Tryz.prog 137 [S x,S y_] [] (I r) [] []:=by
  unfold qT at h;refine zh Tryz.hU Tryz.func137 (fun _ _ _ hB=> ?_);refine z.a6.g ?_;refine zo h (fun _=>cmp_isNaN_string_ok) (fun v1 _ h=> ?_);refine z.y.g ?_;refine zo h (fun _=>cmp_isNaN_string_ok) (fun v2 _ h=> ?_);refine z.e.P.g ?_;refine zn h (fun _ h=> ?_) (fun _ h=> ?_)
  · refine z.e.R.g ?_;refine zn h (fun _ h=> ?_) (fun _ h=> ?_)
    · refine z.i3.b4.g ?_;apply zb [] hB h
    refine z.b4.L.g ?_;apply zb [] hB h
  refine z.e.a.e7.g ?_;refine zn h (fun _ h=> ?_) (fun _ h=> ?_)
  · refine z.b4.g ?_;apply zb [] hB h
  refine z.e.s4.h.e7.g ?_;refine zn h (fun _ h=> ?_) (fun _ h=> ?_)
  · refine z.b4.g ?_;apply zb [] hB h
  refine z.e.s5.h.e7.g ?_;refine zn h (fun _ h=> ?_) (fun _ h=> ?_)
  · refine z.b4.g ?_;apply zb [] hB h
  refine z.Z.L.g ?_;apply zb [] hB h
theorem cmp_Or_int_ok {vals:(List Int)}{r:Int}(h:zah vals=some r):XSpec Tryz.prog 136 [.vs vals.length (F cI vals)] [] (I r) [] []:=by
  unfold zah at h;refine zh Tryz.hU Tryz.func136 (fun _ _ _ hB=> ?_);refine z.e2.f1.l.b.g ?_;refine zL (fun y1=>⟨[(3,I 0),(6,.vs vals.length (F cI vals)),(7,I (vals.length:Int)),(8,I y1)],[],[]⟩) (Sum.elim (fun q3=>(.ret,⟨[(2,I q3)],[],[]⟩)) (fun q4=>(.exit 0,⟨[(3,I 0)],[],[]⟩))) [] hB h (fun y1 t h=> ?_) (fun q h=> ?_)
  · unfold cmp_Or_int_b1 at h;refine z.b9.g ?_;refine zn h (fun _ h=> ?_) (fun _ h=> ?_)
    · refine z.b.E.g ?_;refine QK h (fun v2 _ h=> ?_);refine z.t.B.k9.g ?_;refine zn h (fun _ h=> ?_) (fun _ h=> ?_)
      · refine z.q.k.a.g ?_;exact zr [] hB h
      refine z.d6.g ?_;exact zv [] hB h
    refine z.m.g ?_;exact zr [] hB h
  rcases q with q3|q4
  · dsimp only [Sum.elim] at h ⊢
    refine z.q.g ?_;apply zb [] hB h
  dsimp only [Sum.elim] at h ⊢
  refine z.k.a.w.g ?_;apply zb [] hB h
theorem space_Sorted_c1_ok {a:za}{b:za}{r:Int}(h:Qa a b=some r):XSpec Tryz.prog 135 [.agg (zk a),.agg (zk b)] [] (I r) [] []:=by
  unfold Qa at h;refine zh Tryz.hU Tryz.func135 (fun _ _ _ hB=> ?_);refine z.J.l3.l3.b.g ?_;refine ZR [] (.q 0 (.q 1 (.q 2 (.q 3 (.q 5 (.q 6 (.q 7 (.q 8 (.e 4 (.e 9 (.e 10 (.e 11 (.q 12 (.done)))))))))))))) hm ?_;refine z.F.h8.k7.h8.k7.h8.k7.h8.k7.g ?_;refine n_call h (fun _=>cmp_Compare_string_ok) (fun v1 _ h=> ?_);refine ge ?_;refine n_call h (fun _=>cmp_Compare_string_ok) (fun v2 _ h=> ?_);refine ge ?_;refine n_lit (e:=cI) [v1,v2] ?_;refine ge ?_;refine n_callB h (fun _=>cmp_Or_int_ok) (fun v3 _ h=> ?_);refine z.k8.j6.l4.d.g ?_;apply zb [] hB h
theorem space_Sorted_ok {l:(List za)}{r:(List za)}(h:QE l=some r):XSpec Tryz.prog 75 [.vs l.length (F zk l)] [] (.sl 1 0 r.length) [(1,.row 39 2 0 (F zk r))] []:=by
  unfold QE at h;refine zh Tryz.hU Tryz.func75 (fun _ _ _ hB=> ?_);refine z.a6.g ?_;refine zi [(1,100501)] [] h (fun _=>slices_Clone_Decl_ok) (fun v1 _ h=> ?_);refine z.y.g ?_;refine zi [(101,100501)] [100501] h (fun _=>slices_SortStableFunc_Decl_ok (fun h=>space_Sorted_c1_ok h) ⟨rfl,rfl⟩) (fun v2 _ h=> ?_);refine JU h (fun ev3 h=> ?_);refine z.k.c5.g ?_;refine qO 2 v2.length ?_;apply zb [(100501,1)] hB h
theorem space_Scope_ok {d:(Option ZW)}{n:Int}{r:(List za)}(h:Zr d n=some r):XSpec Tryz.prog 25 [oP Jg d,I n] [] (.sl 1 0 r.length) [(1,.row 39 2 0 (F zk r))] []:=by
  unfold Zr at h;refine zh Tryz.hU Tryz.func25 (fun _ _ _ hB=> ?_);refine z.h.J.b.g ?_;refine zo h (fun _=>zaa) (fun v1 _ h=> ?_);refine z.t.p9.g ?_;refine zn h (fun _ h=> ?_) (fun _ h=> ?_)
  · refine z.b4.g ?_;refine f_nilrow (te:=39) (t:=4) 3004 2 ?_;apply zb [(3004,1)] hB h
  refine z.s6.b.L.g ?_;refine l_mput keyS (ev:=(fun v=>B v)) (m:=[]) (k:=[120,109,108]) true ?_;refine z.l2.b.l.c.g ?_;refine Je (e:=zk) [(za.mk [120,109,108] [104,116,116,112,58,47,47,119,119,119,46,119,51,46,111,114,103,47,88,77,76,47,49,57,57,56,47,110,97,109,101,115,112,97,99,101])] ?_;refine z.h.J.g ?_;refine zi [(1,102201)] [] h (fun _=>doc_Doc_Up_ok) (fun v2 _ h=> ?_);refine l_move ?_;refine Je (e:=cI) [n] ?_;refine zi [(101,102201),(103,1024)] [102201,1024] h (fun _=>slices_Insert_int_ok) (fun v3 _ h=> ?_);refine l_to [(1016,1016),(1019,1019),(102201,102201)] ⟨[(0,oP Jg d),(5,.mp 1016),(6,.sl 1019 0 ([(za.mk [120,109,108] [104,116,116,112,58,47,47,119,119,119,46,119,51,46,111,114,103,47,88,77,76,47,49,57,57,56,47,110,97,109,101,115,112,97,99,101])].length)),(25,.sl 102201 0 v3.length)],[(1016,.map (MP kS (fun v=>B v) (mput [] [120,109,108] true))),(1019,.row 39 2 0 (F zk [(za.mk [120,109,108] [104,116,116,112,58,47,47,119,119,119,46,119,51,46,111,114,103,47,88,77,76,47,49,57,57,56,47,110,97,109,101,115,112,97,99,101])])),(102201,.row 3 1 0 (F cI v3))],[1024,102201]⟩ hB ?_;refine z.e2.g ?_;refine zL (fun y4=>⟨[(0,oP Jg d),(5,.mp 1016),(6,.sl 1019 0 y4.2.2.length),(25,.sl 102201 0 v3.length),(26,I (v3.length:Int)),(27,I y4.1)],[(1016,.map (MP kS (fun v=>B v) y4.2.1)),(1019,.row 39 2 0 (F zk y4.2.2)),(102201,.row 3 1 0 (F cI v3))],[1024,102201]⟩) (fun q11=>(.exit 0,⟨[(6,.sl 1019 0 q11.length)],[(1019,.row 39 2 0 (F zk q11))],[1024,102201]⟩)) [(1016,1016),(1019,1019),(102201,102201)] hB h (fun y4 t h=> ?_) (fun q11 h=> ?_)
  · unfold ZD at h;refine z.b9.g ?_;refine zn h (fun _ h=> ?_) (fun _ h=> ?_)
    · refine z.b.E.g ?_;refine QV h (fun v5 ev5 h=> ?_);refine Q0 ev5 ?_;refine z.B.g ?_;refine zo h (fun _=>zaa) (fun v6 _ h=> ?_);refine z.e2.p9.g ?_;refine zL (fun y7=>⟨[(0,oP Jg d),(5,.mp 1016),(6,.sl 1019 0 y7.2.2.length),(25,.sl 102201 0 v3.length),(26,I (v3.length:Int)),(27,I y4.1),(34,.vs v6.Decls.length (F zk v6.Decls)),(35,I (v6.Decls.length:Int)),(36,I y7.1)],[(1016,.map (MP kS (fun v=>B v) y7.2.1)),(1019,.row 39 2 0 (F zk y7.2.2)),(102201,.row 3 1 0 (F cI v3))],[1024,102201]⟩) (fun q10=>(.exit 2,⟨[(0,oP Jg d),(5,.mp 1016),(6,.sl 1019 0 q10.2.length),(25,.sl 102201 0 v3.length),(26,I (v3.length:Int)),(27,I y4.1)],[(1016,.map (MP kS (fun v=>B v) q10.1)),(1019,.row 39 2 0 (F zk q10.2)),(102201,.row 3 1 0 (F cI v3))],[1024,102201]⟩)) [(1016,1016),(1019,1019),(102201,102201)] hB h (fun y7 t h=> ?_) (fun q10 h=> ?_)
      · unfold ZZ at h;refine z.b9.g ?_;refine zn h (fun _ h=> ?_) (fun _ h=> ?_)
        · refine z.b.E.g ?_;refine QK h (fun v8 _ h=> ?_);refine z.a0.R.d4.e0.d9.g ?_;refine l_mget1 keyS (ev:=(fun v=>B v)) (m:=y7.2.1) (k:=v8.Prefix) false ?_;refine z.f7.g ?_;refine zc h (fun _ h=> ?_) (fun _ h=> ?_)
          · refine z.h4.i2.H.g ?_;refine zn h (fun _ h=> ?_) (fun _ h=> ?_)
            · refine z.d9.j.g ?_;refine Je (e:=zk) [v8] ?_;refine J3 h (fun v9 _ h=> ?_);refine z.a0.j.l.g ?_;refine l_mupd keyS (ev:=(fun v=>B v)) (m:=y7.2.1) (k:=v8.Prefix) true ?_;refine z.d5.d0.g ?_;exact zv [(1016,1016),(1019,1019),(102201,102201)] hB h
            refine z.a0.j.L.g ?_;refine l_mupd keyS (ev:=(fun v=>B v)) (m:=y7.2.1) (k:=v8.Prefix) true ?_;refine z.d5.d0.g ?_;exact zv [(1016,1016),(1019,1019),(102201,102201)] hB h
          refine z.a0.j.L.f4.i.g ?_;refine l_mupd keyS (ev:=(fun v=>B v)) (m:=y7.2.1) (k:=v8.Prefix) true ?_;refine z.d5.d0.g ?_;exact zv [(1016,1016),(1019,1019),(102201,102201)] hB h
        refine z.m.g ?_;exact zr [(1016,1016),(1019,1019),(102201,102201)] hB h
      refine z.d5.m8.g ?_;exact zv [(1016,1016),(1019,1019),(102201,102201)] hB h
    refine z.m.g ?_;exact zr [(1019,1019)] hB h
  refine z.a.w.g ?_;refine l_frz 1019 ?_;refine zi [(1,106001)] [] h (fun _=>space_Sorted_ok) (fun v12 _ h=> ?_);refine z.k.g ?_;apply zb [(106001,1)] hB h
theorem space_Find_ok {d:(Option ZW)}{n:Int}{prefix_:Str}{r:Str×Bool}(h:Jf d n prefix_=some r):XSpec Tryz.prog 23 [oP Jg d,I n,S prefix_] [] (.tup [S r.1,B r.2]) [] []:=by
  unfold Jf at h;refine zh Tryz.hU Tryz.func23 (fun _ _ _ hB=> ?_);refine z.h.J.a7.g ?_;refine zi [(1,101201)] [] h (fun _=>space_Scope_ok) (fun v1 _ h=> ?_);refine z.e2.g ?_;refine zL (fun y2=>⟨[(2,S prefix_),(12,.sl 101201 0 v1.length),(13,I (v1.length:Int)),(14,I y2)],[(101201,.row 39 2 0 (F zk v1))],[]⟩) (Sum.elim (fun q4=>(.ret,⟨[(6,S q4),(7,B true)],[],[]⟩)) (fun q5=>(.exit 0,⟨[],[],[]⟩))) [(101201,101201)] hB h (fun y2 t h=> ?_) (fun q h=> ?_)
  · unfold ZT at h;refine z.b9.g ?_;refine zn h (fun _ h=> ?_) (fun _ h=> ?_)
    · refine z.b.E.g ?_;refine QV h (fun v3 ev3 h=> ?_);refine l_ldra ev3 ?_;refine z.e.b7.c.f9.d4.e0.g ?_;refine zn h (fun _ h=> ?_) (fun _ h=> ?_)
      · refine z.q.I.f9.g ?_;exact zr [] hB h
      refine z.d6.g ?_;exact zv [(101201,101201)] hB h
    refine z.m.g ?_;exact zr [] hB h
  rcases q with q4|q5
  · dsimp only [Sum.elim] at h ⊢
    refine z.q.g ?_;apply zb [] hB h
  dsimp only [Sum.elim] at h ⊢
  refine z.I.b.w.g ?_;apply zb [] hB h
theorem zap {r:Bool}(h:Zu=some r):XSpec Tryz.prog 20 [] [] (B r) [] []:=by
  unfold Zu at h;refine zh Tryz.hU Tryz.func20 (fun _ _ _ hB=> ?_);refine z.b.l.b.g ?_;refine l_litb [60,97,32,120,109,108,110,115,61,39,117,39,47,62] ?_;refine l_frz 1006 ?_;refine zo h (fun _=>parse_Parse_ok) (fun v1 _ h=> ?_);refine z.y.b6.g ?_;refine zo h (fun _=>space_Find_ok) (fun v2 _ h=> ?_);refine z.u.y.b6.g ?_;refine zc h (fun _ h=> ?_) (fun _ h=> ?_)
  · refine z.b2.s.g ?_;refine zc h (fun _ h=> ?_) (fun _ h=> ?_)
    · refine z.b2.b7.f.g ?_;refine zc h (fun _ h=> ?_) (fun _ h=> ?_)
      · refine z.f.g ?_;refine zi [(1,102701)] [] h (fun _=>space_Scope_ok) (fun v3 _ h=> ?_);refine z.a8.c7.O.a4.g ?_;apply zb [] hB h
      refine z.c1.n.g ?_;apply zb [] hB h
    refine z.c1.h6.o.g ?_;apply zb [] hB h
  refine z.c1.h6.o.r.c2.g ?_;apply zb [] hB h
end Go.Proofs.YtojbjdcflgeibaaGreatDoor
