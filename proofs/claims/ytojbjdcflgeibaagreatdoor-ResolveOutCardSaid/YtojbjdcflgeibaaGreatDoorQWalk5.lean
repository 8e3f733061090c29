/-
  WALKS, printed by aw.py: that the program's functions compute the plain ones. Conditions: none.
-/
import Derived.Test.YtojbjdcflgeibaaGreatDoorQWalk4
set_option linter.unusedVariables false
set_option linter.unusedSimpArgs false
set_option maxRecDepth 20000
set_option maxHeartbeats 4000000
namespace Go.Proofs.YtojbjdcflgeibaaGreatDoor
open Go Go.Abs W G
theorem doc_Doc_End_ok {d:(Option Zy)}{n:Int}{r:Int}(h:doc_Doc_End d n=some r):XSpec Tryz.prog 19 [oP Zl d,I n] [] (I r) [] []:=by
  unfold doc_Doc_End at h;refine zc Tryz.hU Tryz.func19 (fun _ _ _ hB=> ?_);refine z.h.k0.g ?_;refine zm h (fun _=>doc_Doc_has_ok) (fun v1 _ h=> ?_);refine z.d0.g ?_;refine zo h (fun _ h=> ?_) (fun _ h=> ?_)
  · refine z.a9.g ?_;apply za [] hB h
  refine z.y.g ?_;refine l_deref h (fun v2 _ h=> ?_);refine z.a.Z.g ?_;refine Ql h (fun v3 _ h=> ?_);refine z.l.l0.g ?_;apply za [] hB h
theorem doc_Doc_Up_ok {d:(Option Zy)}{n:Int}{r:(List Int)}(h:doc_Doc_Up d n=some r):XSpec Tryz.prog 74 [oP Zl d,I n] [] (.sl 1 0 r.length) [(1,.row 3 1 0 (F cI r))] []:=by
  unfold doc_Doc_Up at h;refine zc Tryz.hU Tryz.func74 (fun _ _ _ hB=> ?_);refine z.h.k0.j.c.g ?_;refine zm h (fun _=>doc_Doc_has_ok) (fun v1 _ h=> ?_);refine z.d0.g ?_;refine zo h (fun _ h=> ?_) (fun _ h=> ?_)
  · refine z.a9.g ?_;refine f_nilrow (te:=3) (t:=4) 3004 1 ?_;apply za [(3004,1)] hB h
  refine z.b.e7.g ?_;refine l_deref h (fun v2 _ h=> ?_);refine z.a.Z.g ?_;refine Ql h (fun v3 _ h=> ?_);refine z.j3.Z.g ?_;refine k_nilrow (te:=3) (t:=5) 3005 1 ?_;refine zE (fun y4=>⟨[(0,oP Zl d),(5,.sl 3005 0 y4.2.length),(6,I y4.1)],[(3005,.row 3 1 0 (F cI y4.2))],[]⟩) (fun q8=>(.exit 0,⟨[(5,.sl 3005 0 q8.length)],[(3005,.row 3 1 0 (F cI q8))],[]⟩)) [(3005,3005)] hB h (fun y4 t h=> ?_) (fun q8 h=> ?_)
  · unfold doc_Doc_Up_b1 at h;refine z.t.U.g ?_;refine zo h (fun _ h=> ?_) (fun _ h=> ?_)
    · refine z.C.D.g ?_;refine Qq (e:=cI) [y4.1] ?_;refine QO h (fun v5 _ h=> ?_);refine z.d8.G.g ?_;refine l_deref h (fun v6 _ h=> ?_);refine z.a.Z.g ?_;refine Ql h (fun v7 _ h=> ?_);refine z.G.Z.g ?_;exact zt [(3005,3005)] hB h
    refine z.k.g ?_;exact zr [(3005,3005)] hB h
  refine z.l.j4.g ?_;apply za [(3005,1)] hB h
theorem slices_Insert_int_ok {s:(List Int)}{i:Int}{v_:(List Int)}{r:(List Int)}(h:slices_Insert_int s i v_=some r):XSpec Tryz.prog 73 [.sl 101 0 s.length,I i,.sl 103 0 v_.length] [(101,.row 3 1 0 (F cI s)),(103,.row 3 1 0 (F cI v_))] (.sl 101 0 r.length) [(101,.row 3 1 0 (F cI r))] [103,101]:=by
  obtain ⟨⟨h0,h1,h2⟩,rfl⟩:=ins_some h
  have hi:((i.toNat:Nat):Int)=i:=Int.toNat_of_nonneg h0
  have:=ins_x Tryz.hU Tryz.insW73 rfl rfl rfl rfl (by decide) rfl rfl rfl (by decide) rfl (fun es w=>enters_of Tryz.func73 (by kernel_rfl) rfl es w) (e:=cI) (fun _=>rfl) s v_ i.toNat h1 h2
  rw [hi] at this
  exact this
theorem Z3 {data:(List zg)}{a:Int}{b:Int}{cmp:(zg→zg→Option Int)}{fk_cmp:Nat}{fc_cmp:List AV}(hf_cmp: ∀ {x0:zg} {x1:zg} {r:Int},cmp x0 x1=some r→XSpec Tryz.prog fk_cmp ((.agg (zk x0))::(.agg (zk x1))::fc_cmp) [] (I r) [] [])(hc_cmp:AV.closedL fc_cmp=true∧AV.onlyL [] fc_cmp=true){r:(List zg)}(h:qw data a b cmp=some r):XSpec Tryz.prog 233 [.sl 101 0 data.length,I a,I b,.fn (.func fk_cmp) [] fc_cmp] [(101,.row 39 2 0 (F zk data))] (.tup []) [(101,.row 39 2 0 (F zk r))] []:=by
  unfold qw at h;refine zc Tryz.hU Tryz.func233 (fun _ _ _ hB=> ?_);refine z.j3.d6.b.g ?_;refine zE (fun y1=>⟨[(0,.sl 101 0 y1.2.length),(1,I a),(2,I b),(3,.fn (.func fk_cmp) [] fc_cmp),(8,I y1.1)],[(101,.row 39 2 0 (F zk y1.2))],[]⟩) (fun q14=>(.exit 0,⟨[],[(101,.row 39 2 0 (F zk q14))],[]⟩)) [(101,101)] hB h (fun y1 t h=> ?_) (fun q14 h=> ?_)
  · unfold Z0 at h;refine z.i8.g ?_;refine zo h (fun _ h=> ?_) (fun _ h=> ?_)
    · refine z.j3.b.D.g ?_;refine zE (fun y2=>⟨[(0,.sl 101 0 y2.2.length),(1,I a),(2,I b),(3,.fn (.func fk_cmp) [] fc_cmp),(8,I y1.1),(9,I y2.1)],[(101,.row 39 2 0 (F zk y2.2))],[]⟩) (fun q13=>(.exit 2,⟨[(0,.sl 101 0 q13.length),(1,I a),(2,I b),(3,.fn (.func fk_cmp) [] fc_cmp),(8,I y1.1)],[(101,.row 39 2 0 (F zk q13))],[]⟩)) [(101,101)] hB h (fun y2 t h=> ?_) (fun q13 h=> ?_)
      · unfold Z6 at h;refine z.J.J.g ?_;refine qS (fun q6=>(.normal,⟨[(0,.sl 101 0 y2.2.length),(1,I a),(2,I b),(3,.fn (.func fk_cmp) [] fc_cmp),(8,I y1.1),(9,I y2.1),(34,B q6)],[(101,.row 39 2 0 (F zk y2.2))],[]⟩)) h (fun t h=> ?_) (fun q6 h=> ?_)
        · refine Zr [] (.q 0 (.q 1 (.q 2 (.q 3 (.q 4 (.q 5 (.q 6 (.q 7 (.q 8 (.q 9 (.q 10 (.q 11 (.q 12 (.q 13 (.e 14 (.q 15 (.q 16 (.done)))))))))))))))))) hm ?_;refine z.L.c8.h8.g ?_;refine QH h (fun _ h=> ?_) (fun _ h=> ?_)
          · refine z.b8.b8.b8.i2.g ?_;refine zZ h (fun v3 ev3 h=> ?_);refine z.x.g ?_;refine Jx ev3 ?_;refine z.x.m1.b8.b8.x.g ?_;refine zZ h (fun v4 ev4 h=> ?_);refine z.x.g ?_;refine Jx ev4 ?_;refine z.N.g ?_;refine n_callF hc_cmp h (fun _=>hf_cmp) (fun v5 _ h=> ?_);refine z.a2.d.c8.x.g ?_;exact zp [(101,101)] hB h
          refine z.d9.p1.a6.F.n3.o0.e8.e8.g ?_;exact zp [(101,101)] hB h
        refine f_t ?_;refine zo h (fun _ h=> ?_) (fun _ h=> ?_)
        · refine z.D.g ?_;refine Zr [15,17] (.q 0 (.q 1 (.q 5 (.q 6 (.q 7 (.q 8 (.q 9 (.q 10 (.q 11 (.q 12 (.q 13 (.q 14 (.s 2 (.s 3 (.alt 4 (.e 15 (.q 16 (.e 17 (.done)))) (.e 15 (.q 4 (.q 16 (.e 17 (.done)))))))))))))))))))) hm ?_;refine z.d.m1.h8.d7.d7.g ?_;refine zZ h (fun v7 ev7 h=> ?_);refine gq ?_;refine Jx ev7 ?_;refine z.h8.g ?_;refine zZ h (fun v8 ev8 h=> ?_);refine gq ?_;refine Jx ev8 ?_;refine gq ?_;refine zZ h (fun v9 ev9 h=> ?_);refine z.j9.j9.g ?_;refine zN ?_ ?_
          · refine z.F.m1.n7.g ?_;refine JA ev9 h (fun v10 ev10 h=> ?_);refine m_relen 39 v10.length ?_;refine gq ?_;refine zZ h (fun v11 ev11 h=> ?_);refine ge ?_;refine JA ev11 h (fun v12 ev12 h=> ?_);refine z.G.T.d8.d9.g ?_;refine qs 0 v12.length ?_;exact zt [(101,101)] hB h
          refine ge ?_;refine JA ev9 h (fun v10 ev10 h=> ?_);refine z.m1.d.g ?_;refine m_relen 39 v10.length ?_;refine gq ?_;refine zZ h (fun v11 ev11 h=> ?_);refine ge ?_;refine JA ev11 h (fun v12 ev12 h=> ?_);refine z.G.T.d8.d9.g ?_;refine qs 0 v12.length ?_;exact zt [(101,101)] hB h
        refine z.k.g ?_;exact zr [(101,101)] hB h
      refine z.b9.d8.n4.g ?_;exact zt [(101,101)] hB h
    refine z.k.g ?_;exact zr [(101,101)] hB h
  refine f_be ?_;apply za [(101,101)] hB h
theorem Zm {data:(List zg)}{a:Int}{b:Int}{n:Int}{cmp:(zg→zg→Option Int)}{fk_cmp:Nat}{fc_cmp:List AV}(hf_cmp: ∀ {x0:zg} {x1:zg} {r:Int},cmp x0 x1=some r→XSpec Tryz.prog fk_cmp ((.agg (zk x0))::(.agg (zk x1))::fc_cmp) [] (I r) [] [])(hc_cmp:AV.closedL fc_cmp=true∧AV.onlyL [] fc_cmp=true){r:(List zg)}(h:qn data a b n cmp=some r):XSpec Tryz.prog 272 [.sl 101 0 data.length,I a,I b,I n,.fn (.func fk_cmp) [] fc_cmp] [(101,.row 39 2 0 (F zk data))] (.tup []) [(101,.row 39 2 0 (F zk r))] []:=by
  unfold qn at h;refine zc Tryz.hU Tryz.func272 (fun _ _ _ hB=> ?_);refine z.j3.c.g ?_;refine zE (fun y1=>⟨[(0,.sl 101 0 y1.2.length),(1,I a),(2,I b),(3,I n),(10,I y1.1)],[(101,.row 39 2 0 (F zk y1.2))],[]⟩) (fun q8=>(.exit 0,⟨[],[(101,.row 39 2 0 (F zk q8))],[]⟩)) [(101,101)] hB h (fun y1 t h=> ?_) (fun q8 h=> ?_)
  · unfold QF at h;refine z.i8.g ?_;refine zo h (fun _ h=> ?_) (fun _ h=> ?_)
    · refine z.D.g ?_;refine Zr [21,23] (.q 0 (.q 1 (.q 2 (.q 3 (.q 8 (.q 9 (.q 10 (.q 11 (.q 12 (.q 13 (.q 14 (.q 15 (.q 16 (.q 17 (.q 18 (.q 19 (.q 20 (.s 4 (.s 5 (.s 6 (.alt 7 (.e 21 (.q 22 (.e 23 (.done)))) (.e 21 (.q 7 (.q 22 (.e 23 (.done)))))))))))))))))))))))))) hm ?_;refine z.d.m4.h8.d7.m4.h8.d7.g ?_;refine zZ h (fun v2 ev2 h=> ?_);refine gq ?_;refine Jx ev2 ?_;refine z.d.m4.h8.d7.g ?_;refine zZ h (fun v3 ev3 h=> ?_);refine gq ?_;refine Jx ev3 ?_;refine gq ?_;refine zZ h (fun v4 ev4 h=> ?_);refine z.j9.j9.j9.g ?_;refine zN ?_ ?_
      · refine z.F.m4.n7.g ?_;refine JA ev4 h (fun v5 ev5 h=> ?_);refine m_relen 20 v5.length ?_;refine gq ?_;refine zZ h (fun v6 ev6 h=> ?_);refine ge ?_;refine JA ev6 h (fun v7 ev7 h=> ?_);refine z.b9.d8.d9.g ?_;refine qs 0 v7.length ?_;exact zt [(101,101)] hB h
      refine ge ?_;refine JA ev4 h (fun v5 ev5 h=> ?_);refine z.m4.d.g ?_;refine m_relen 20 v5.length ?_;refine gq ?_;refine zZ h (fun v6 ev6 h=> ?_);refine ge ?_;refine JA ev6 h (fun v7 ev7 h=> ?_);refine z.b9.d8.d9.g ?_;refine qs 0 v7.length ?_;exact zt [(101,101)] hB h
    refine z.k.g ?_;exact zr [(101,101)] hB h
  refine f_be ?_;apply za [(101,101)] hB h
theorem Jt {data:(List zg)}{a:Int}{m:Int}{b:Int}{cmp:(zg→zg→Option Int)}{fk_cmp:Nat}{fc_cmp:List AV}(hf_cmp: ∀ {x0:zg} {x1:zg} {r:Int},cmp x0 x1=some r→XSpec Tryz.prog fk_cmp ((.agg (zk x0))::(.agg (zk x1))::fc_cmp) [] (I r) [] [])(hc_cmp:AV.closedL fc_cmp=true∧AV.onlyL [] fc_cmp=true){r:(List zg)}(h:Zq data a m b cmp=some r):XSpec Tryz.prog 259 [.sl 101 0 data.length,I a,I m,I b,.fn (.func fk_cmp) [] fc_cmp] [(101,.row 39 2 0 (F zk data))] (.tup []) [(101,.row 39 2 0 (F zk r))] []:=by
  unfold Zq at h;refine zc Tryz.hU Tryz.func259 (fun _ _ _ hB=> ?_);refine z.c5.b3.T.q.T.h.g ?_;refine zE (fun y1=>⟨[(0,.sl 101 0 y1.2.2.length),(2,I m),(4,.fn (.func fk_cmp) [] fc_cmp),(10,I y1.1),(11,I y1.2.1)],[(101,.row 39 2 0 (F zk y1.2.2))],[]⟩) (fun q6=>(.exit 0,⟨[(0,.sl 101 0 q6.2.length),(2,I m),(4,.fn (.func fk_cmp) [] fc_cmp),(10,I q6.1)],[(101,.row 39 2 0 (F zk q6.2))],[]⟩)) [(101,101)] hB h (fun y1 t h=> ?_) (fun q6 h=> ?_)
  · unfold Jo at h;refine z.i8.g ?_;refine zo h (fun _ h=> ?_) (fun _ h=> ?_)
    · refine z.t.h.k1.g ?_;refine zo h (fun _ h=> ?_) (fun _ h=> ?_)
      · refine z.a.j5.T.a.h.g ?_;refine zh (hargs:=by (simp only [List.nil_append,List.append_nil,List.cons_append,AV.mapNL,AV.mapN,zw hc_cmp.1];rfl)) (hon:=by (simp only [List.nil_append,List.append_nil,List.cons_append,AV.onlyL,AV.only,zC hc_cmp.1];rfl)) [] [101] h (fun _=>Zm (fun h=>hf_cmp h) hc_cmp) (fun v2 _ h=> ?_);refine JM h (fun ev3 h=> ?_);refine z.i6.T.C.e.g ?_;refine qs 0 v2.length ?_;exact zt [(101,101)] hB h
      refine z.j5.T.q3.j5.T.a.h.g ?_;refine zh (hargs:=by (simp only [List.nil_append,List.append_nil,List.cons_append,AV.mapNL,AV.mapN,zw hc_cmp.1];rfl)) (hon:=by (simp only [List.nil_append,List.append_nil,List.cons_append,AV.onlyL,AV.only,zC hc_cmp.1];rfl)) [] [101] h (fun _=>Zm (fun h=>hf_cmp h) hc_cmp) (fun v4 _ h=> ?_);refine JM h (fun ev5 h=> ?_);refine z.i6.T.C.e.g ?_;refine qs 0 v4.length ?_;exact zt [(101,101)] hB h
    refine z.k.g ?_;exact zr [(101,101)] hB h
  refine z.a.j5.T.a.C.R.g ?_;refine zh (hargs:=by (simp only [List.nil_append,List.append_nil,List.cons_append,AV.mapNL,AV.mapN,zw hc_cmp.1];rfl)) (hon:=by (simp only [List.nil_append,List.append_nil,List.cons_append,AV.onlyL,AV.only,zC hc_cmp.1];rfl)) [] [101] h (fun _=>Zm (fun h=>hf_cmp h) hc_cmp) (fun v7 _ h=> ?_);refine JM h (fun ev8 h=> ?_);refine k_nil ?_;apply za [(101,101)] hB h
theorem slices_symMergeCmpFunc_Decl_F_ok {frec:((List zg)→Int→Int→Int→(zg→zg→Option Int)→Option (List zg))}(hrec: ∀ {data:(List zg)} {a:Int} {m:Int} {b:Int} {cmp:(zg→zg→Option Int)} {fk_cmp:Nat} {fc_cmp:List AV} (hf_cmp: ∀ {x0:zg} {x1:zg} {r:Int},cmp x0 x1=some r→XSpec Tryz.prog fk_cmp ((.agg (zk x0))::(.agg (zk x1))::fc_cmp) [] (I r) [] []) (hc_cmp:AV.closedL fc_cmp=true∧AV.onlyL [] fc_cmp=true) {r:(List zg)},frec data a m b cmp=some r→XSpec Tryz.prog 234 [.sl 101 0 data.length,I a,I m,I b,.fn (.func fk_cmp) [] fc_cmp] [(101,.row 39 2 0 (F zk data))] (.tup []) [(101,.row 39 2 0 (F zk r))] []){data:(List zg)}{a:Int}{m:Int}{b:Int}{cmp:(zg→zg→Option Int)}{fk_cmp:Nat}{fc_cmp:List AV}(hf_cmp: ∀ {x0:zg} {x1:zg} {r:Int},cmp x0 x1=some r→XSpec Tryz.prog fk_cmp ((.agg (zk x0))::(.agg (zk x1))::fc_cmp) [] (I r) [] [])(hc_cmp:AV.closedL fc_cmp=true∧AV.onlyL [] fc_cmp=true){r:(List zg)}(h:ZG frec data a m b cmp=some r):XSpec Tryz.prog 234 [.sl 101 0 data.length,I a,I m,I b,.fn (.func fk_cmp) [] fc_cmp] [(101,.row 39 2 0 (F zk data))] (.tup []) [(101,.row 39 2 0 (F zk r))] []:=by
  unfold ZG at h;refine zc Tryz.hU Tryz.func234 (fun _ _ _ hB=> ?_);refine z.t.T.m0.g ?_;refine zo h (fun _ h=> ?_) (fun _ h=> ?_)
  · refine z.c5.b3.w.b.g ?_;refine zE (fun y1=>⟨[(0,.sl 101 0 data.length),(1,I a),(4,.fn (.func fk_cmp) [] fc_cmp),(10,I y1.1),(11,I y1.2)],[(101,.row 39 2 0 (F zk data))],[]⟩) (fun q5=>(.exit 0,⟨[(0,.sl 101 0 data.length),(1,I a),(10,I q5)],[(101,.row 39 2 0 (F zk data))],[]⟩)) [(101,101)] hB h (fun y1 t h=> ?_) (fun q5 h=> ?_)
    · unfold QQ at h;refine z.i8.g ?_;refine zo h (fun _ h=> ?_) (fun _ h=> ?_)
      · refine z.h5.d6.h.k1.g ?_;refine Qo (r:=((v64 (w64 (y1.1+y1.2))).fdiv (2^1))) ?_;refine z.b3.h5.g ?_;refine Zr [] (.q 0 (.q 1 (.q 2 (.q 3 (.q 4 (.q 5 (.q 6 (.q 7 (.q 8 (.e 9 (.q 10 (.done)))))))))))) hm ?_;refine z.h8.d7.g ?_;refine zZ h (fun v2 ev2 h=> ?_);refine gq ?_;refine Jx ev2 ?_;refine z.h8.g ?_;refine zZ h (fun v3 ev3 h=> ?_);refine gq ?_;refine Jx ev3 ?_;refine ge ?_;refine n_callF hc_cmp h (fun _=>hf_cmp) (fun v4 _ h=> ?_);refine z.j2.c8.d.g ?_;refine zo h (fun _ h=> ?_) (fun _ h=> ?_)
        · refine z.h0.b9.i.g ?_;exact zt [(101,101)] hB h
        refine z.i6.i.g ?_;exact zt [(101,101)] hB h
      refine z.k.g ?_;exact zr [(101,101)] hB h
    refine z.j3.U.R.g ?_;refine zE (fun y6=>⟨[(0,.sl 101 0 y6.2.length),(10,I q5),(13,I y6.1)],[(101,.row 39 2 0 (F zk y6.2))],[]⟩) (fun q13=>(.exit 2,⟨[],[(101,.row 39 2 0 (F zk q13))],[]⟩)) [(101,101)] hB h (fun y6 t h=> ?_) (fun q13 h=> ?_)
    · unfold QW at h;refine z.t.T.m0.g ?_;refine zo h (fun _ h=> ?_) (fun _ h=> ?_)
      · refine z.D.g ?_;refine Zr [15,17] (.q 0 (.q 1 (.q 5 (.q 6 (.q 7 (.q 8 (.q 9 (.q 10 (.q 11 (.q 12 (.q 13 (.q 14 (.s 2 (.s 3 (.alt 4 (.e 15 (.q 16 (.e 17 (.done)))) (.e 15 (.q 4 (.q 16 (.e 17 (.done)))))))))))))))))))) hm ?_;refine z.d.m4.h8.d7.d7.g ?_;refine zZ h (fun v7 ev7 h=> ?_);refine gq ?_;refine Jx ev7 ?_;refine z.h8.g ?_;refine zZ h (fun v8 ev8 h=> ?_);refine gq ?_;refine Jx ev8 ?_;refine gq ?_;refine zZ h (fun v9 ev9 h=> ?_);refine z.j9.j9.g ?_;refine zN ?_ ?_
        · refine z.F.m4.n7.g ?_;refine JA ev9 h (fun v10 ev10 h=> ?_);refine m_relen 63 v10.length ?_;refine gq ?_;refine zZ h (fun v11 ev11 h=> ?_);refine ge ?_;refine JA ev11 h (fun v12 ev12 h=> ?_);refine z.b9.d8.d9.g ?_;refine qs 0 v12.length ?_;exact zt [(101,101)] hB h
        refine ge ?_;refine JA ev9 h (fun v10 ev10 h=> ?_);refine z.m4.d.g ?_;refine m_relen 63 v10.length ?_;refine gq ?_;refine zZ h (fun v11 ev11 h=> ?_);refine ge ?_;refine JA ev11 h (fun v12 ev12 h=> ?_);refine z.b9.d8.d9.g ?_;refine qs 0 v12.length ?_;exact zt [(101,101)] hB h
      refine z.k.g ?_;exact zr [(101,101)] hB h
    refine z.n5.l5.R.g ?_;apply za [(101,101)] hB h
  refine z.t.T.h.e7.g ?_;refine zo h (fun _ h=> ?_) (fun _ h=> ?_)
  · refine z.c5.b3.w.b.g ?_;refine zE (fun y14=>⟨[(0,.sl 101 0 data.length),(2,I m),(4,.fn (.func fk_cmp) [] fc_cmp),(14,I y14.1),(15,I y14.2)],[(101,.row 39 2 0 (F zk data))],[]⟩) (fun q18=>(.exit 4,⟨[(0,.sl 101 0 data.length),(2,I m),(14,I q18)],[(101,.row 39 2 0 (F zk data))],[]⟩)) [(101,101)] hB h (fun y14 t h=> ?_) (fun q18 h=> ?_)
    · unfold QP at h;refine z.i8.g ?_;refine zo h (fun _ h=> ?_) (fun _ h=> ?_)
      · refine z.h5.d6.h.k1.g ?_;refine Qo (r:=((v64 (w64 (y14.1+y14.2))).fdiv (2^1))) ?_;refine z.b3.h5.g ?_;refine Zr [] (.q 0 (.q 1 (.q 2 (.q 3 (.q 4 (.q 5 (.q 6 (.q 7 (.q 8 (.e 9 (.q 10 (.q 11 (.done))))))))))))) hm ?_;refine z.h8.d7.g ?_;refine zZ h (fun v15 ev15 h=> ?_);refine gq ?_;refine Jx ev15 ?_;refine z.h8.g ?_;refine zZ h (fun v16 ev16 h=> ?_);refine gq ?_;refine Jx ev16 ?_;refine ge ?_;refine n_callF hc_cmp h (fun _=>hf_cmp) (fun v17 _ h=> ?_);refine z.j2.q4.d.c8.d.g ?_;refine zo h (fun _ h=> ?_) (fun _ h=> ?_)
        · refine z.h0.b9.i.g ?_;exact zt [(101,101)] hB h
        refine z.i6.i.g ?_;exact zt [(101,101)] hB h
      refine z.k.g ?_;exact zr [(101,101)] hB h
    refine z.j3.U.R.g ?_;refine zE (fun y19=>⟨[(0,.sl 101 0 y19.2.length),(14,I q18),(17,I y19.1)],[(101,.row 39 2 0 (F zk y19.2))],[]⟩) (fun q26=>(.exit 6,⟨[],[(101,.row 39 2 0 (F zk q26))],[]⟩)) [(101,101)] hB h (fun y19 t h=> ?_) (fun q26 h=> ?_)
    · unfold QT at h;refine z.i8.g ?_;refine zo h (fun _ h=> ?_) (fun _ h=> ?_)
      · refine z.D.g ?_;refine Zr [15,17] (.q 0 (.q 1 (.q 5 (.q 6 (.q 7 (.q 8 (.q 9 (.q 10 (.q 11 (.q 12 (.q 13 (.q 14 (.s 2 (.s 3 (.alt 4 (.e 15 (.q 16 (.e 17 (.done)))) (.e 15 (.q 4 (.q 16 (.e 17 (.done)))))))))))))))))))) hm ?_;refine z.d.m1.h8.d7.d7.g ?_;refine zZ h (fun v20 ev20 h=> ?_);refine gq ?_;refine Jx ev20 ?_;refine z.h8.g ?_;refine zZ h (fun v21 ev21 h=> ?_);refine gq ?_;refine Jx ev21 ?_;refine gq ?_;refine zZ h (fun v22 ev22 h=> ?_);refine z.j9.j9.g ?_;refine zN ?_ ?_
        · refine z.F.m1.n7.g ?_;refine JA ev22 h (fun v23 ev23 h=> ?_);refine m_relen 115 v23.length ?_;refine gq ?_;refine zZ h (fun v24 ev24 h=> ?_);refine ge ?_;refine JA ev24 h (fun v25 ev25 h=> ?_);refine z.G.T.d8.d9.g ?_;refine qs 0 v25.length ?_;exact zt [(101,101)] hB h
        refine ge ?_;refine JA ev22 h (fun v23 ev23 h=> ?_);refine z.m1.d.g ?_;refine m_relen 115 v23.length ?_;refine gq ?_;refine zZ h (fun v24 ev24 h=> ?_);refine ge ?_;refine JA ev24 h (fun v25 ev25 h=> ?_);refine z.G.T.d8.d9.g ?_;refine qs 0 v25.length ?_;exact zt [(101,101)] hB h
      refine z.k.g ?_;exact zr [(101,101)] hB h
    refine z.n5.l5.R.g ?_;apply za [(101,101)] hB h
  refine z.h5.d6.f3.g ?_;refine Qo (r:=((v64 (w64 (a+b))).fdiv (2^1))) ?_;refine z.t.h.b3.r.j.d6.q.h5.g ?_;refine zo h (fun _ h=> ?_) (fun _ h=> ?_)
  · refine z.c5.b3.T.w.i.j.T.h.g ?_;refine zE (fun y27=>⟨[(0,.sl 101 0 data.length),(1,I a),(2,I m),(3,I b),(4,.fn (.func fk_cmp) [] fc_cmp),(18,I (w64 ((v64 (w64 (a+b))).fdiv (2^1)))),(19,I (w64 ((w64 ((v64 (w64 (a+b))).fdiv (2^1)))+m))),(20,I y27.1),(21,I y27.2),(22,I (w64 ((w64 ((w64 ((v64 (w64 (a+b))).fdiv (2^1)))+m))-1)))],[(101,.row 39 2 0 (F zk data))],[]⟩) (fun q31=>(.exit 8,⟨[(0,.sl 101 0 data.length),(1,I a),(2,I m),(3,I b),(4,.fn (.func fk_cmp) [] fc_cmp),(18,I q31.1),(19,I q31.2.1),(20,I q31.2.2)],[(101,.row 39 2 0 (F zk data))],[]⟩)) [(101,101)] hB h (fun y27 t h=> ?_) (fun q31 h=> ?_)
    · unfold QV at h;refine z.i8.g ?_;refine zo h (fun _ h=> ?_) (fun _ h=> ?_)
      · refine z.h5.d6.h.k1.g ?_;refine Qo (r:=((v64 (w64 (y27.1+y27.2))).fdiv (2^1))) ?_;refine z.b3.h5.g ?_;refine Zr [] (.q 0 (.q 1 (.q 2 (.q 3 (.q 4 (.q 5 (.q 6 (.q 7 (.q 8 (.q 9 (.q 10 (.e 11 (.q 12 (.q 13 (.done))))))))))))))) hm ?_;refine z.d.m1.h8.d7.d7.g ?_;refine zZ h (fun v28 ev28 h=> ?_);refine gq ?_;refine Jx ev28 ?_;refine z.h8.g ?_;refine zZ h (fun v29 ev29 h=> ?_);refine gq ?_;refine Jx ev29 ?_;refine ge ?_;refine n_callF hc_cmp h (fun _=>hf_cmp) (fun v30 _ h=> ?_);refine z.j2.q4.d.c8.d.g ?_;refine zo h (fun _ h=> ?_) (fun _ h=> ?_)
        · refine z.h0.b9.i.g ?_;exact zt [(101,101)] hB h
        refine z.i6.i.g ?_;exact zt [(101,101)] hB h
      refine z.k.g ?_;exact zr [(101,101)] hB h
    refine z.f8.T.h.R.g ?_;refine qS (fun q32=>(.normal,⟨[(0,.sl 101 0 data.length),(1,I a),(2,I m),(3,I b),(4,.fn (.func fk_cmp) [] fc_cmp),(18,I q31.1),(20,I q31.2.2),(24,I (w64 (q31.2.1-q31.2.2))),(185,B q32)],[(101,.row 39 2 0 (F zk data))],[]⟩)) h (fun t h=> ?_) (fun q32 h=> ?_)
    · refine z.v.C.g ?_;refine zb h (fun _ h=> ?_) (fun _ h=> ?_)
      · refine z.M.u.s.g ?_;exact zp [(101,101)] hB h
      refine z.c3.o.g ?_;exact zp [(101,101)] hB h
    refine f_t ?_;refine zo h (fun _ h=> ?_) (fun _ h=> ?_)
    · refine z.a.j1.g ?_;refine zh (hargs:=by (simp only [List.nil_append,List.append_nil,List.cons_append,AV.mapNL,AV.mapN,zw hc_cmp.1];rfl)) (hon:=by (simp only [List.nil_append,List.append_nil,List.cons_append,AV.onlyL,AV.only,zC hc_cmp.1];rfl)) [] [101] h (fun _=>Jt (fun h=>hf_cmp h) hc_cmp) (fun v33 _ h=> ?_);refine JM h (fun ev41 h=> ?_);refine z.J.J.e.g ?_;refine qS (fun q34=>(.normal,⟨[(0,.sl 101 0 v33.length),(1,I a),(3,I b),(4,.fn (.func fk_cmp) [] fc_cmp),(18,I q31.1),(20,I q31.2.2),(24,I (w64 (q31.2.1-q31.2.2))),(199,B q34)],[(101,.row 39 2 0 (F zk v33))],[]⟩)) h (fun t h=> ?_) (fun q34 h=> ?_)
      · refine z.v.C.g ?_;refine zb h (fun _ h=> ?_) (fun _ h=> ?_)
        · refine z.M.u.s.g ?_;refine qs 0 v33.length ?_;exact zp [(101,101)] hB h
        refine z.c3.o.g ?_;refine qs 0 v33.length ?_;exact zp [(101,101)] hB h
      refine f_t ?_;refine zo h (fun _ h=> ?_) (fun _ h=> ?_)
      · refine z.a.j1.g ?_;refine zh (hargs:=by (simp only [List.nil_append,List.append_nil,List.cons_append,AV.mapNL,AV.mapN,zw hc_cmp.1];rfl)) (hon:=by (simp only [List.nil_append,List.append_nil,List.cons_append,AV.onlyL,AV.only,zC hc_cmp.1];rfl)) [] [101] h (fun _=>hrec (fun h=>hf_cmp h) hc_cmp) (fun v35 _ h=> ?_);refine JM h (fun ev38 h=> ?_);refine z.v.h.e.g ?_;refine zb h (fun _ h=> ?_) (fun _ h=> ?_)
        · refine z.i3.u.s.g ?_;refine zo h (fun _ h=> ?_) (fun _ h=> ?_)
          · refine z.a.j1.g ?_;refine l_relen 214 v35.length ?_;refine zh (hargs:=by (simp only [List.nil_append,List.append_nil,List.cons_append,AV.mapNL,AV.mapN,zw hc_cmp.1];rfl)) (hon:=by (simp only [List.nil_append,List.append_nil,List.cons_append,AV.onlyL,AV.only,zC hc_cmp.1];rfl)) [] [101] h (fun _=>hrec (fun h=>hf_cmp h) hc_cmp) (fun v36 _ h=> ?_);refine JM h (fun ev37 h=> ?_);refine k_nil ?_;apply za [(101,101)] hB h
          refine k_skip ?_;apply za [(101,101)] hB h
        refine z.X.h7.o.g ?_;apply za [(101,101)] hB h
      refine z.v.f3.g ?_;refine zb h (fun _ h=> ?_) (fun _ h=> ?_)
      · refine z.i3.u.s.g ?_;refine zo h (fun _ h=> ?_) (fun _ h=> ?_)
        · refine z.a.j1.g ?_;refine zh (hargs:=by (simp only [List.nil_append,List.append_nil,List.cons_append,AV.mapNL,AV.mapN,zw hc_cmp.1];rfl)) (hon:=by (simp only [List.nil_append,List.append_nil,List.cons_append,AV.onlyL,AV.only,zC hc_cmp.1];rfl)) [] [101] h (fun _=>hrec (fun h=>hf_cmp h) hc_cmp) (fun v39 _ h=> ?_);refine JM h (fun ev40 h=> ?_);refine k_nil ?_;apply za [(101,101)] hB h
        refine k_skip ?_;apply za [(101,101)] hB h
      refine z.X.h7.o.g ?_;apply za [(101,101)] hB h
    refine z.J.e7.g ?_;refine qS (fun q42=>(.normal,⟨[(0,.sl 101 0 data.length),(1,I a),(3,I b),(4,.fn (.func fk_cmp) [] fc_cmp),(18,I q31.1),(20,I q31.2.2),(24,I (w64 (q31.2.1-q31.2.2))),(199,B q42)],[(101,.row 39 2 0 (F zk data))],[]⟩)) h (fun t h=> ?_) (fun q42 h=> ?_)
    · refine z.v.C.g ?_;refine zb h (fun _ h=> ?_) (fun _ h=> ?_)
      · refine z.M.u.s.g ?_;exact zp [(101,101)] hB h
      refine z.c3.o.g ?_;exact zp [(101,101)] hB h
    refine f_t ?_;refine zo h (fun _ h=> ?_) (fun _ h=> ?_)
    · refine z.a.j1.g ?_;refine zh (hargs:=by (simp only [List.nil_append,List.append_nil,List.cons_append,AV.mapNL,AV.mapN,zw hc_cmp.1];rfl)) (hon:=by (simp only [List.nil_append,List.append_nil,List.cons_append,AV.onlyL,AV.only,zC hc_cmp.1];rfl)) [] [101] h (fun _=>hrec (fun h=>hf_cmp h) hc_cmp) (fun v43 _ h=> ?_);refine JM h (fun ev46 h=> ?_);refine z.v.h.e.g ?_;refine zb h (fun _ h=> ?_) (fun _ h=> ?_)
      · refine z.i3.u.s.g ?_;refine zo h (fun _ h=> ?_) (fun _ h=> ?_)
        · refine z.a.j1.g ?_;refine l_relen 214 v43.length ?_;refine zh (hargs:=by (simp only [List.nil_append,List.append_nil,List.cons_append,AV.mapNL,AV.mapN,zw hc_cmp.1];rfl)) (hon:=by (simp only [List.nil_append,List.append_nil,List.cons_append,AV.onlyL,AV.only,zC hc_cmp.1];rfl)) [] [101] h (fun _=>hrec (fun h=>hf_cmp h) hc_cmp) (fun v44 _ h=> ?_);refine JM h (fun ev45 h=> ?_);refine k_nil ?_;apply za [(101,101)] hB h
        refine k_skip ?_;apply za [(101,101)] hB h
      refine z.X.h7.o.g ?_;apply za [(101,101)] hB h
    refine z.v.f3.g ?_;refine zb h (fun _ h=> ?_) (fun _ h=> ?_)
    · refine z.i3.u.s.g ?_;refine zo h (fun _ h=> ?_) (fun _ h=> ?_)
      · refine z.a.j1.g ?_;refine zh (hargs:=by (simp only [List.nil_append,List.append_nil,List.cons_append,AV.mapNL,AV.mapN,zw hc_cmp.1];rfl)) (hon:=by (simp only [List.nil_append,List.append_nil,List.cons_append,AV.onlyL,AV.only,zC hc_cmp.1];rfl)) [] [101] h (fun _=>hrec (fun h=>hf_cmp h) hc_cmp) (fun v47 _ h=> ?_);refine JM h (fun ev48 h=> ?_);refine k_nil ?_;apply za [(101,101)] hB h
      refine k_skip ?_;apply za [(101,101)] hB h
    refine z.X.h7.o.g ?_;apply za [(101,101)] hB h
  refine z.c5.b3.T.w.i.j.b.g ?_;refine zE (fun y49=>⟨[(0,.sl 101 0 data.length),(1,I a),(2,I m),(3,I b),(4,.fn (.func fk_cmp) [] fc_cmp),(18,I (w64 ((v64 (w64 (a+b))).fdiv (2^1)))),(19,I (w64 ((w64 ((v64 (w64 (a+b))).fdiv (2^1)))+m))),(20,I y49.1),(21,I y49.2),(22,I (w64 ((w64 ((w64 ((v64 (w64 (a+b))).fdiv (2^1)))+m))-1)))],[(101,.row 39 2 0 (F zk data))],[]⟩) (fun q53=>(.exit 8,⟨[(0,.sl 101 0 data.length),(1,I a),(2,I m),(3,I b),(4,.fn (.func fk_cmp) [] fc_cmp),(18,I q53.1),(19,I q53.2.1),(20,I q53.2.2)],[(101,.row 39 2 0 (F zk data))],[]⟩)) [(101,101)] hB h (fun y49 t h=> ?_) (fun q53 h=> ?_)
  · unfold QU at h;refine z.i8.g ?_;refine zo h (fun _ h=> ?_) (fun _ h=> ?_)
    · refine z.h5.d6.h.k1.g ?_;refine Qo (r:=((v64 (w64 (y49.1+y49.2))).fdiv (2^1))) ?_;refine z.b3.h5.g ?_;refine Zr [] (.q 0 (.q 1 (.q 2 (.q 3 (.q 4 (.q 5 (.q 6 (.q 7 (.q 8 (.q 9 (.q 10 (.e 11 (.q 12 (.q 13 (.done))))))))))))))) hm ?_;refine z.d.m1.h8.d7.d7.g ?_;refine zZ h (fun v50 ev50 h=> ?_);refine gq ?_;refine Jx ev50 ?_;refine z.h8.g ?_;refine zZ h (fun v51 ev51 h=> ?_);refine gq ?_;refine Jx ev51 ?_;refine ge ?_;refine n_callF hc_cmp h (fun _=>hf_cmp) (fun v52 _ h=> ?_);refine z.j2.q4.d.c8.d.g ?_;refine zo h (fun _ h=> ?_) (fun _ h=> ?_)
      · refine z.h0.b9.i.g ?_;exact zt [(101,101)] hB h
      refine z.i6.i.g ?_;exact zt [(101,101)] hB h
    refine z.k.g ?_;exact zr [(101,101)] hB h
  refine z.f8.T.h.R.g ?_;refine qS (fun q54=>(.normal,⟨[(0,.sl 101 0 data.length),(1,I a),(2,I m),(3,I b),(4,.fn (.func fk_cmp) [] fc_cmp),(18,I q53.1),(20,I q53.2.2),(24,I (w64 (q53.2.1-q53.2.2))),(185,B q54)],[(101,.row 39 2 0 (F zk data))],[]⟩)) h (fun t h=> ?_) (fun q54 h=> ?_)
  · refine z.v.C.g ?_;refine zb h (fun _ h=> ?_) (fun _ h=> ?_)
    · refine z.M.u.s.g ?_;exact zp [(101,101)] hB h
    refine z.c3.o.g ?_;exact zp [(101,101)] hB h
  refine f_t ?_;refine zo h (fun _ h=> ?_) (fun _ h=> ?_)
  · refine z.a.j1.g ?_;refine zh (hargs:=by (simp only [List.nil_append,List.append_nil,List.cons_append,AV.mapNL,AV.mapN,zw hc_cmp.1];rfl)) (hon:=by (simp only [List.nil_append,List.append_nil,List.cons_append,AV.onlyL,AV.only,zC hc_cmp.1];rfl)) [] [101] h (fun _=>Jt (fun h=>hf_cmp h) hc_cmp) (fun v55 _ h=> ?_);refine JM h (fun ev63 h=> ?_);refine z.J.J.e.g ?_;refine qS (fun q56=>(.normal,⟨[(0,.sl 101 0 v55.length),(1,I a),(3,I b),(4,.fn (.func fk_cmp) [] fc_cmp),(18,I q53.1),(20,I q53.2.2),(24,I (w64 (q53.2.1-q53.2.2))),(199,B q56)],[(101,.row 39 2 0 (F zk v55))],[]⟩)) h (fun t h=> ?_) (fun q56 h=> ?_)
    · refine z.v.C.g ?_;refine zb h (fun _ h=> ?_) (fun _ h=> ?_)
      · refine z.M.u.s.g ?_;refine qs 0 v55.length ?_;exact zp [(101,101)] hB h
      refine z.c3.o.g ?_;refine qs 0 v55.length ?_;exact zp [(101,101)] hB h
    refine f_t ?_;refine zo h (fun _ h=> ?_) (fun _ h=> ?_)
    · refine z.a.j1.g ?_;refine zh (hargs:=by (simp only [List.nil_append,List.append_nil,List.cons_append,AV.mapNL,AV.mapN,zw hc_cmp.1];rfl)) (hon:=by (simp only [List.nil_append,List.append_nil,List.cons_append,AV.onlyL,AV.only,zC hc_cmp.1];rfl)) [] [101] h (fun _=>hrec (fun h=>hf_cmp h) hc_cmp) (fun v57 _ h=> ?_);refine JM h (fun ev60 h=> ?_);refine z.v.h.e.g ?_;refine zb h (fun _ h=> ?_) (fun _ h=> ?_)
      · refine z.i3.u.s.g ?_;refine zo h (fun _ h=> ?_) (fun _ h=> ?_)
        · refine z.a.j1.g ?_;refine l_relen 214 v57.length ?_;refine zh (hargs:=by (simp only [List.nil_append,List.append_nil,List.cons_append,AV.mapNL,AV.mapN,zw hc_cmp.1];rfl)) (hon:=by (simp only [List.nil_append,List.append_nil,List.cons_append,AV.onlyL,AV.only,zC hc_cmp.1];rfl)) [] [101] h (fun _=>hrec (fun h=>hf_cmp h) hc_cmp) (fun v58 _ h=> ?_);refine JM h (fun ev59 h=> ?_);refine k_nil ?_;apply za [(101,101)] hB h
        refine k_skip ?_;apply za [(101,101)] hB h
      refine z.X.h7.o.g ?_;apply za [(101,101)] hB h
    refine z.v.f3.g ?_;refine zb h (fun _ h=> ?_) (fun _ h=> ?_)
    · refine z.i3.u.s.g ?_;refine zo h (fun _ h=> ?_) (fun _ h=> ?_)
      · refine z.a.j1.g ?_;refine zh (hargs:=by (simp only [List.nil_append,List.append_nil,List.cons_append,AV.mapNL,AV.mapN,zw hc_cmp.1];rfl)) (hon:=by (simp only [List.nil_append,List.append_nil,List.cons_append,AV.onlyL,AV.only,zC hc_cmp.1];rfl)) [] [101] h (fun _=>hrec (fun h=>hf_cmp h) hc_cmp) (fun v61 _ h=> ?_);refine JM h (fun ev62 h=> ?_);refine k_nil ?_;apply za [(101,101)] hB h
      refine k_skip ?_;apply za [(101,101)] hB h
    refine z.X.h7.o.g ?_;apply za [(101,101)] hB h
  refine z.J.e7.g ?_;refine qS (fun q64=>(.normal,⟨[(0,.sl 101 0 data.length),(1,I a),(3,I b),(4,.fn (.func fk_cmp) [] fc_cmp),(18,I q53.1),(20,I q53.2.2),(24,I (w64 (q53.2.1-q53.2.2))),(199,B q64)],[(101,.row 39 2 0 (F zk data))],[]⟩)) h (fun t h=> ?_) (fun q64 h=> ?_)
  · refine z.v.C.g ?_;refine zb h (fun _ h=> ?_) (fun _ h=> ?_)
    · refine z.M.u.s.g ?_;exact zp [(101,101)] hB h
    refine z.c3.o.g ?_;exact zp [(101,101)] hB h
  refine f_t ?_;refine zo h (fun _ h=> ?_) (fun _ h=> ?_)
  · refine z.a.j1.g ?_;refine zh (hargs:=by (simp only [List.nil_append,List.append_nil,List.cons_append,AV.mapNL,AV.mapN,zw hc_cmp.1];rfl)) (hon:=by (simp only [List.nil_append,List.append_nil,List.cons_append,AV.onlyL,AV.only,zC hc_cmp.1];rfl)) [] [101] h (fun _=>hrec (fun h=>hf_cmp h) hc_cmp) (fun v65 _ h=> ?_);refine JM h (fun ev68 h=> ?_);refine z.v.h.e.g ?_;refine zb h (fun _ h=> ?_) (fun _ h=> ?_)
    · refine z.i3.u.s.g ?_;refine zo h (fun _ h=> ?_) (fun _ h=> ?_)
      · refine z.a.j1.g ?_;refine l_relen 214 v65.length ?_;refine zh (hargs:=by (simp only [List.nil_append,List.append_nil,List.cons_append,AV.mapNL,AV.mapN,zw hc_cmp.1];rfl)) (hon:=by (simp only [List.nil_append,List.append_nil,List.cons_append,AV.onlyL,AV.only,zC hc_cmp.1];rfl)) [] [101] h (fun _=>hrec (fun h=>hf_cmp h) hc_cmp) (fun v66 _ h=> ?_);refine JM h (fun ev67 h=> ?_);refine k_nil ?_;apply za [(101,101)] hB h
      refine k_skip ?_;apply za [(101,101)] hB h
    refine z.X.h7.o.g ?_;apply za [(101,101)] hB h
  refine z.v.f3.g ?_;refine zb h (fun _ h=> ?_) (fun _ h=> ?_)
  · refine z.i3.u.s.g ?_;refine zo h (fun _ h=> ?_) (fun _ h=> ?_)
    · refine z.a.j1.g ?_;refine zh (hargs:=by (simp only [List.nil_append,List.append_nil,List.cons_append,AV.mapNL,AV.mapN,zw hc_cmp.1];rfl)) (hon:=by (simp only [List.nil_append,List.append_nil,List.cons_append,AV.onlyL,AV.only,zC hc_cmp.1];rfl)) [] [101] h (fun _=>hrec (fun h=>hf_cmp h) hc_cmp) (fun v69 _ h=> ?_);refine JM h (fun ev70 h=> ?_);refine k_nil ?_;apply za [(101,101)] hB h
    refine k_skip ?_;apply za [(101,101)] hB h
  refine z.X.h7.o.g ?_;apply za [(101,101)] hB h
theorem slices_symMergeCmpFunc_Decl_n_ok: ∀ (fuel:Nat) {data:(List zg)} {a:Int} {m:Int} {b:Int} {cmp:(zg→zg→Option Int)} {fk_cmp:Nat} {fc_cmp:List AV} (hf_cmp: ∀ {x0:zg} {x1:zg} {r:Int},cmp x0 x1=some r→XSpec Tryz.prog fk_cmp ((.agg (zk x0))::(.agg (zk x1))::fc_cmp) [] (I r) [] []) (hc_cmp:AV.closedL fc_cmp=true∧AV.onlyL [] fc_cmp=true) {r:(List zg)} (h:qF fuel data a m b cmp=some r),XSpec Tryz.prog 234 [.sl 101 0 data.length,I a,I m,I b,.fn (.func fk_cmp) [] fc_cmp] [(101,.row 39 2 0 (F zk data))] (.tup []) [(101,.row 39 2 0 (F zk r))] []:=by
  intro fuel
  induction fuel with
  |zero=>intro data a m b cmp fk_cmp fc_cmp hf_cmp hc_cmp r h;cases h
  |succ fuel ih=>
    intro data a m b cmp fk_cmp fc_cmp hf_cmp hc_cmp r h
    refine slices_symMergeCmpFunc_Decl_F_ok (frec:=qF fuel) ?_ (fun h=>hf_cmp h) hc_cmp h;exact @ih
theorem QL {data:(List zg)}{a:Int}{m:Int}{b:Int}{cmp:(zg→zg→Option Int)}{fk_cmp:Nat}{fc_cmp:List AV}(hf_cmp: ∀ {x0:zg} {x1:zg} {r:Int},cmp x0 x1=some r→XSpec Tryz.prog fk_cmp ((.agg (zk x0))::(.agg (zk x1))::fc_cmp) [] (I r) [] [])(hc_cmp:AV.closedL fc_cmp=true∧AV.onlyL [] fc_cmp=true){r:(List zg)}(h:ZX data a m b cmp=some r):XSpec Tryz.prog 234 [.sl 101 0 data.length,I a,I m,I b,.fn (.func fk_cmp) [] fc_cmp] [(101,.row 39 2 0 (F zk data))] (.tup []) [(101,.row 39 2 0 (F zk r))] []:=by
  obtain ⟨fuel,h⟩:=lim_some h;exact slices_symMergeCmpFunc_Decl_n_ok fuel (fun h=>hf_cmp h) hc_cmp h
theorem slices_stableCmpFunc_Decl_ok {data:(List zg)}{n:Int}{cmp:(zg→zg→Option Int)}{fk_cmp:Nat}{fc_cmp:List AV}(hf_cmp: ∀ {x0:zg} {x1:zg} {r:Int},cmp x0 x1=some r→XSpec Tryz.prog fk_cmp ((.agg (zk x0))::(.agg (zk x1))::fc_cmp) [] (I r) [] [])(hc_cmp:AV.closedL fc_cmp=true∧AV.onlyL [] fc_cmp=true){r:(List zg)}(h:Qm data n cmp=some r):XSpec Tryz.prog 191 [.sl 101 0 data.length,I n,.fn (.func fk_cmp) [] fc_cmp] [(101,.row 39 2 0 (F zk data))] (.tup []) [(101,.row 39 2 0 (F zk r))] []:=by
  unfold Qm at h;refine zc Tryz.hU Tryz.func191 (fun _ _ _ hB=> ?_);refine z.c5.b3.A.a7.g ?_;refine zE (fun y1=>⟨[(0,.sl 101 0 y1.2.2.length),(1,I n),(2,.fn (.func fk_cmp) [] fc_cmp),(6,I 20),(7,I y1.1),(8,I y1.2.1)],[(101,.row 39 2 0 (F zk y1.2.2))],[]⟩) (fun q4=>(.exit 0,⟨[(0,.sl 101 0 q4.2.length),(1,I n),(2,.fn (.func fk_cmp) [] fc_cmp),(6,I 20),(7,I q4.1)],[(101,.row 39 2 0 (F zk q4.2))],[]⟩)) [(101,101)] hB h (fun y1 t h=> ?_) (fun q4 h=> ?_)
  · unfold Jn at h;refine z.i8.g ?_;refine zo h (fun _ h=> ?_) (fun _ h=> ?_)
    · refine z.j5.h.k1.g ?_;refine zh (hargs:=by (simp only [List.nil_append,List.append_nil,List.cons_append,AV.mapNL,AV.mapN,zw hc_cmp.1];rfl)) (hon:=by (simp only [List.nil_append,List.append_nil,List.cons_append,AV.onlyL,AV.only,zC hc_cmp.1];rfl)) [] [101] h (fun _=>Z3 (fun h=>hf_cmp h) hc_cmp) (fun v2 _ h=> ?_);refine JM h (fun ev3 h=> ?_);refine z.h0.b9.C.j.c7.g ?_;refine qs 0 v2.length ?_;exact zt [(101,101)] hB h
    refine z.k.g ?_;exact zr [(101,101)] hB h
  refine z.j5.h.R.g ?_;refine zh (hargs:=by (simp only [List.nil_append,List.append_nil,List.cons_append,AV.mapNL,AV.mapN,zw hc_cmp.1];rfl)) (hon:=by (simp only [List.nil_append,List.append_nil,List.cons_append,AV.onlyL,AV.only,zC hc_cmp.1];rfl)) [] [101] h (fun _=>Z3 (fun h=>hf_cmp h) hc_cmp) (fun v5 _ h=> ?_);refine JM h (fun ev14 h=> ?_);refine z.l9.g ?_;refine k_relen 0 v5.length ?_;refine zE (fun y6=>⟨[(0,.sl 101 0 y6.2.length),(1,I n),(2,.fn (.func fk_cmp) [] fc_cmp),(6,I y6.1)],[(101,.row 39 2 0 (F zk y6.2))],[]⟩) (fun q13=>(.exit 2,⟨[],[(101,.row 39 2 0 (F zk q13))],[]⟩)) [(101,101)] hB h (fun y6 t h=> ?_) (fun q13 h=> ?_)
  · unfold Js at h;refine z.i8.g ?_;refine zo h (fun _ h=> ?_) (fun _ h=> ?_)
    · refine z.c5.b3.A.m5.b.k1.g ?_;refine zE (fun y7=>⟨[(0,.sl 101 0 y7.2.2.length),(1,I n),(2,.fn (.func fk_cmp) [] fc_cmp),(6,I y6.1),(7,I y7.1),(8,I y7.2.1)],[(101,.row 39 2 0 (F zk y7.2.2))],[]⟩) (fun q10=>(.exit 4,⟨[(0,.sl 101 0 q10.2.length),(1,I n),(2,.fn (.func fk_cmp) [] fc_cmp),(6,I y6.1),(7,I q10.1)],[(101,.row 39 2 0 (F zk q10.2))],[]⟩)) [(101,101)] hB h (fun y7 t h=> ?_) (fun q10 h=> ?_)
      · unfold Jv at h;refine z.i8.g ?_;refine zo h (fun _ h=> ?_) (fun _ h=> ?_)
        · refine z.a.q3.j5.h.k1.g ?_;refine zh (hargs:=by (simp only [List.nil_append,List.append_nil,List.cons_append,AV.mapNL,AV.mapN,zw hc_cmp.1];rfl)) (hon:=by (simp only [List.nil_append,List.append_nil,List.cons_append,AV.onlyL,AV.only,zC hc_cmp.1];rfl)) [] [101] h (fun _=>QL (fun h=>hf_cmp h) hc_cmp) (fun v8 _ h=> ?_);refine JM h (fun ev9 h=> ?_);refine z.h0.b9.m5.C.j.c7.g ?_;refine qs 0 v8.length ?_;exact zt [(101,101)] hB h
        refine z.k.g ?_;exact zr [(101,101)] hB h
      refine z.t.q.d6.m0.R.g ?_;refine zo h (fun _ h=> ?_) (fun _ h=> ?_)
      · refine z.a.j1.g ?_;refine zh (hargs:=by (simp only [List.nil_append,List.append_nil,List.cons_append,AV.mapNL,AV.mapN,zw hc_cmp.1];rfl)) (hon:=by (simp only [List.nil_append,List.append_nil,List.cons_append,AV.onlyL,AV.only,zC hc_cmp.1];rfl)) [] [101] h (fun _=>QL (fun h=>hf_cmp h) hc_cmp) (fun v11 _ h=> ?_);refine JM h (fun ev12 h=> ?_);refine z.i6.m5.i.e.g ?_;refine qs 0 v11.length ?_;exact zt [(101,101)] hB h
      refine z.i6.m5.i.K.g ?_;exact zt [(101,101)] hB h
    refine z.k.g ?_;exact zr [(101,101)] hB h
  refine f_be ?_;apply za [(101,101)] hB h
theorem slices_SortStableFunc_Decl_ok {x:(List zg)}{cmp:(zg→zg→Option Int)}{fk_cmp:Nat}{fc_cmp:List AV}(hf_cmp: ∀ {x0:zg} {x1:zg} {r:Int},cmp x0 x1=some r→XSpec Tryz.prog fk_cmp ((.agg (zk x0))::(.agg (zk x1))::fc_cmp) [] (I r) [] [])(hc_cmp:AV.closedL fc_cmp=true∧AV.onlyL [] fc_cmp=true){r:(List zg)}(h:Qd x cmp=some r):XSpec Tryz.prog 134 [.sl 101 0 x.length,.fn (.func fk_cmp) [] fc_cmp] [(101,.row 39 2 0 (F zk x))] (.tup []) [(101,.row 39 2 0 (F zk r))] []:=by
  unfold Qd at h;refine zc Tryz.hU Tryz.func134 (fun _ _ _ hB=> ?_);refine z.a.Q.C.g ?_;refine zh (hargs:=by (simp only [List.nil_append,List.append_nil,List.cons_append,AV.mapNL,AV.mapN,zw hc_cmp.1];rfl)) (hon:=by (simp only [List.nil_append,List.append_nil,List.cons_append,AV.onlyL,AV.only,zC hc_cmp.1];rfl)) [] [101] h (fun _=>slices_stableCmpFunc_Decl_ok (fun h=>hf_cmp h) hc_cmp) (fun v1 _ h=> ?_);refine JM h (fun ev2 h=> ?_);refine k_nil ?_;apply za [(101,101)] hB h
theorem cmp_isNaN_string_ok {x:Str}{r:Bool}(h:JT x=some r):XSpec Tryz.prog 192 [S x] [] (B r) [] []:=by
  unfold JT at h;refine zc Tryz.hU Tryz.func192 (fun _ _ _ hB=> ?_);refine z.l.i9.q.c.g ?_;apply za [] hB h
theorem cmp_Compare_string_ok {x:Str}{y_:Str}{r:Int}(h:Jf x y_=some r):XSpec Tryz.prog 137 [S x,S y_] [] (I r) [] []:=by
  unfold Jf at h;refine zc Tryz.hU Tryz.func137 (fun _ _ _ hB=> ?_);refine z.a7.g ?_;refine zm h (fun _=>cmp_isNaN_string_ok) (fun v1 _ h=> ?_);refine z.w.g ?_;refine zm h (fun _=>cmp_isNaN_string_ok) (fun v2 _ h=> ?_);refine z.e.I.g ?_;refine zo h (fun _ h=> ?_) (fun _ h=> ?_)
  · refine z.e.U.g ?_;refine zo h (fun _ h=> ?_) (fun _ h=> ?_)
    · refine z.n5.a9.g ?_;apply za [] hB h
    refine z.a9.K.g ?_;apply za [] hB h
  refine z.e.b.e7.g ?_;refine zo h (fun _ h=> ?_) (fun _ h=> ?_)
  · refine z.a9.g ?_;apply za [] hB h
  refine z.e.t1.h.e7.g ?_;refine zo h (fun _ h=> ?_) (fun _ h=> ?_)
  · refine z.a9.g ?_;apply za [] hB h
  refine z.e.t2.h.e7.g ?_;refine zo h (fun _ h=> ?_) (fun _ h=> ?_)
  · refine z.a9.g ?_;apply za [] hB h
  refine z.b2.K.g ?_;apply za [] hB h
theorem cmp_Or_int_ok {vals:(List Int)}{r:Int}(h:cmp_Or_int vals=some r):XSpec Tryz.prog 136 [.vs vals.length (F cI vals)] [] (I r) [] []:=by
  unfold cmp_Or_int at h;refine zc Tryz.hU Tryz.func136 (fun _ _ _ hB=> ?_);refine z.f0.f2.j.c.g ?_;refine zE (fun y1=>⟨[(3,I 0),(6,.vs vals.length (F cI vals)),(7,I (vals.length:Int)),(8,I y1)],[],[]⟩) (Sum.elim (fun q3=>(.ret,⟨[(2,I q3)],[],[]⟩)) (fun q4=>(.exit 0,⟨[(3,I 0)],[],[]⟩))) [] hB h (fun y1 t h=> ?_) (fun q h=> ?_)
  · unfold cmp_Or_int_b1 at h;refine z.b7.g ?_;refine zo h (fun _ h=> ?_) (fun _ h=> ?_)
    · refine z.c.D.g ?_;refine Ql h (fun v2 _ h=> ?_);refine z.t.q.l0.g ?_;refine zo h (fun _ h=> ?_) (fun _ h=> ?_)
      · refine z.E.b.g ?_;exact zr [] hB h
      refine z.e5.g ?_;exact zt [] hB h
    refine z.k.g ?_;exact zr [] hB h
  rcases q with q3|q4
  · dsimp only [Sum.elim] at h ⊢
    refine z.a3.g ?_;apply za [] hB h
  dsimp only [Sum.elim] at h ⊢
  refine z.l.j4.g ?_;apply za [] hB h
theorem space_Sorted_c1_ok {a:zg}{b:zg}{r:Int}(h:space_Sorted_c1 a b=some r):XSpec Tryz.prog 135 [.agg (zk a),.agg (zk b)] [] (I r) [] []:=by
  unfold space_Sorted_c1 at h;refine zc Tryz.hU Tryz.func135 (fun _ _ _ hB=> ?_);refine z.b3.l2.l2.c.g ?_;refine Zr [] (.q 0 (.q 1 (.q 2 (.q 3 (.q 5 (.q 6 (.q 7 (.q 8 (.e 4 (.e 9 (.e 10 (.e 11 (.q 12 (.done)))))))))))))) hm ?_;refine z.F.n0.n0.n0.n0.g ?_;refine n_call h (fun _=>cmp_Compare_string_ok) (fun v1 _ h=> ?_);refine ge ?_;refine n_call h (fun _=>cmp_Compare_string_ok) (fun v2 _ h=> ?_);refine ge ?_;refine n_lit (e:=cI) [v1,v2] ?_;refine ge ?_;refine n_callB h (fun _=>cmp_Or_int_ok) (fun v3 _ h=> ?_);refine z.l5.j2.l8.d.g ?_;apply za [] hB h
theorem space_Sorted_ok {l:(List zg)}{r:(List zg)}(h:space_Sorted l=some r):XSpec Tryz.prog 75 [.vs l.length (F zk l)] [] (.sl 1 0 r.length) [(1,.row 39 2 0 (F zk r))] []:=by
  unfold space_Sorted at h;refine zc Tryz.hU Tryz.func75 (fun _ _ _ hB=> ?_);refine z.a7.g ?_;refine zh [(1,100501)] [] h (fun _=>slices_Clone_Decl_ok) (fun v1 _ h=> ?_);refine z.w.g ?_;refine zh [(101,100501)] [100501] h (fun _=>slices_SortStableFunc_Decl_ok (fun h=>space_Sorted_c1_ok h) ⟨rfl,rfl⟩) (fun v2 _ h=> ?_);refine JM h (fun ev3 h=> ?_);refine z.l.c7.g ?_;refine qs 2 v2.length ?_;apply za [(100501,1)] hB h
theorem space_Scope_ok {d:(Option Zy)}{n:Int}{r:(List zg)}(h:space_Scope d n=some r):XSpec Tryz.prog 25 [oP Zl d,I n] [] (.sl 1 0 r.length) [(1,.row 39 2 0 (F zk r))] []:=by
  unfold space_Scope at h;refine zc Tryz.hU Tryz.func25 (fun _ _ _ hB=> ?_);refine z.h.k0.g ?_;refine zm h (fun _=>Jm) (fun v1 _ h=> ?_);refine z.t.p0.g ?_;refine zo h (fun _ h=> ?_) (fun _ h=> ?_)
  · refine z.a9.g ?_;refine f_nilrow (te:=39) (t:=4) 3004 2 ?_;apply za [(3004,1)] hB h
  refine z.r8.c.K.g ?_;refine l_mput keyS (ev:=(fun v=>B v)) (m:=[]) (k:=[120,109,108]) true ?_;refine z.k6.c.j.a.g ?_;refine Qq (e:=zk) [(zg.mk [120,109,108] [104,116,116,112,58,47,47,119,119,119,46,119,51,46,111,114,103,47,88,77,76,47,49,57,57,56,47,110,97,109,101,115,112,97,99,101])] ?_;refine z.h.b3.g ?_;refine zh [(1,102201)] [] h (fun _=>doc_Doc_Up_ok) (fun v2 _ h=> ?_);refine l_move ?_;refine Qq (e:=cI) [n] ?_;refine zh [(101,102201),(103,1024)] [102201,1024] h (fun _=>slices_Insert_int_ok) (fun v3 _ h=> ?_);refine l_to [(1016,1016),(1019,1019),(102201,102201)] ⟨[(0,oP Zl d),(5,.mp 1016),(6,.sl 1019 0 ([(zg.mk [120,109,108] [104,116,116,112,58,47,47,119,119,119,46,119,51,46,111,114,103,47,88,77,76,47,49,57,57,56,47,110,97,109,101,115,112,97,99,101])].length)),(25,.sl 102201 0 v3.length)],[(1016,.map (MP kS (fun v=>B v) (mput [] [120,109,108] true))),(1019,.row 39 2 0 (F zk [(zg.mk [120,109,108] [104,116,116,112,58,47,47,119,119,119,46,119,51,46,111,114,103,47,88,77,76,47,49,57,57,56,47,110,97,109,101,115,112,97,99,101])])),(102201,.row 3 1 0 (F cI v3))],[1024,102201]⟩ hB ?_;refine z.f0.g ?_;refine zE (fun y4=>⟨[(0,oP Zl d),(5,.mp 1016),(6,.sl 1019 0 y4.2.2.length),(25,.sl 102201 0 v3.length),(26,I (v3.length:Int)),(27,I y4.1)],[(1016,.map (MP kS (fun v=>B v) y4.2.1)),(1019,.row 39 2 0 (F zk y4.2.2)),(102201,.row 3 1 0 (F cI v3))],[1024,102201]⟩) (fun q11=>(.exit 0,⟨[(6,.sl 1019 0 q11.length)],[(1019,.row 39 2 0 (F zk q11))],[1024,102201]⟩)) [(1016,1016),(1019,1019),(102201,102201)] hB h (fun y4 t h=> ?_) (fun q11 h=> ?_)
  · unfold space_Scope_b1 at h;refine z.b7.g ?_;refine zo h (fun _ h=> ?_) (fun _ h=> ?_)
    · refine z.c.D.g ?_;refine Q5 h (fun v5 ev5 h=> ?_);refine QN ev5 ?_;refine z.q.g ?_;refine zm h (fun _=>Jm) (fun v6 _ h=> ?_);refine z.f0.p0.g ?_;refine zE (fun y7=>⟨[(0,oP Zl d),(5,.mp 1016),(6,.sl 1019 0 y7.2.2.length),(25,.sl 102201 0 v3.length),(26,I (v3.length:Int)),(27,I y4.1),(34,.vs v6.Decls.length (F zk v6.Decls)),(35,I (v6.Decls.length:Int)),(36,I y7.1)],[(1016,.map (MP kS (fun v=>B v) y7.2.1)),(1019,.row 39 2 0 (F zk y7.2.2)),(102201,.row 3 1 0 (F cI v3))],[1024,102201]⟩) (fun q10=>(.exit 2,⟨[(0,oP Zl d),(5,.mp 1016),(6,.sl 1019 0 q10.2.length),(25,.sl 102201 0 v3.length),(26,I (v3.length:Int)),(27,I y4.1)],[(1016,.map (MP kS (fun v=>B v) q10.1)),(1019,.row 39 2 0 (F zk q10.2)),(102201,.row 3 1 0 (F cI v3))],[1024,102201]⟩)) [(1016,1016),(1019,1019),(102201,102201)] hB h (fun y7 t h=> ?_) (fun q10 h=> ?_)
      · unfold space_Scope_b2 at h;refine z.b7.g ?_;refine zo h (fun _ h=> ?_) (fun _ h=> ?_)
        · refine z.c.D.g ?_;refine Ql h (fun v8 _ h=> ?_);refine z.Z.U.e1.e9.d3.g ?_;refine l_mget1 keyS (ev:=(fun v=>B v)) (m:=y7.2.1) (k:=v8.Prefix) false ?_;refine z.f6.g ?_;refine zb h (fun _ h=> ?_) (fun _ h=> ?_)
          · refine z.i3.i9.H.g ?_;refine zo h (fun _ h=> ?_) (fun _ h=> ?_)
            · refine z.d3.i.g ?_;refine Qq (e:=zk) [v8] ?_;refine QO h (fun v9 _ h=> ?_);refine z.Z.i.j.g ?_;refine l_mupd keyS (ev:=(fun v=>B v)) (m:=y7.2.1) (k:=v8.Prefix) true ?_;refine z.d5.d2.g ?_;exact zt [(1016,1016),(1019,1019),(102201,102201)] hB h
            refine z.Z.i.K.g ?_;refine l_mupd keyS (ev:=(fun v=>B v)) (m:=y7.2.1) (k:=v8.Prefix) true ?_;refine z.d5.d2.g ?_;exact zt [(1016,1016),(1019,1019),(102201,102201)] hB h
          refine z.Z.i.K.h7.o.g ?_;refine l_mupd keyS (ev:=(fun v=>B v)) (m:=y7.2.1) (k:=v8.Prefix) true ?_;refine z.d5.d2.g ?_;exact zt [(1016,1016),(1019,1019),(102201,102201)] hB h
        refine z.k.g ?_;exact zr [(1016,1016),(1019,1019),(102201,102201)] hB h
      refine z.d5.n4.g ?_;exact zt [(1016,1016),(1019,1019),(102201,102201)] hB h
    refine z.k.g ?_;exact zr [(1019,1019)] hB h
  refine z.j4.g ?_;refine l_frz 1019 ?_;refine zh [(1,106001)] [] h (fun _=>space_Sorted_ok) (fun v12 _ h=> ?_);refine z.l.g ?_;apply za [(106001,1)] hB h
end Go.Proofs.YtojbjdcflgeibaaGreatDoor
