/- WALKS, printed by aw.py: that the program's functions compute the plain ones. Conditions: none. -/
import Derived.Test.YtojbjdcflgeibaaGreatDoorQWalk4
set_option linter.unusedVariables false
set_option linter.unusedSimpArgs false
set_option maxRecDepth 20000
set_option maxHeartbeats 4000000
namespace Go.Proofs.YtojbjdcflgeibaaGreatDoor
open Go Go.Abs W G
theorem doc_Doc_End_ok {d:(Option Zb)}{n:Int}{r:Int}(h:doc_Doc_End d n=some r):XSpec Tryz.prog 19 [oP ZN d,I n] [] (I r) [] []:=by
 unfold doc_Doc_End at h;refine zd Tryz.hU Tryz.func19 (fun _ _ _ hB=> ?_);refine z.i.k3.g ?_;refine zm h (fun _=>doc_Doc_has_ok) (fun v1 _ h=> ?_);refine z.d3.g ?_;refine zn h (fun _ h=> ?_) (fun _ h=> ?_)
 ·refine z.a6.g ?_;apply zb [] hB h
 refine z.y.g ?_;refine l_deref h (fun v2 _ h=> ?_);refine z.a.a2.g ?_;refine QH h (fun v3 _ h=> ?_);refine z.l.l2.g ?_;apply zb [] hB h
theorem doc_Doc_Up_ok {d:(Option Zb)}{n:Int}{r:(List Int)}(h:doc_Doc_Up d n=some r):XSpec Tryz.prog 74 [oP ZN d,I n] [] (.sl 1 0 r.length) [(1,.row 3 1 0 (F cI r))] []:=by
 unfold doc_Doc_Up at h;refine zd Tryz.hU Tryz.func74 (fun _ _ _ hB=> ?_);refine z.i.k3.j.c.g ?_;refine zm h (fun _=>doc_Doc_has_ok) (fun v1 _ h=> ?_);refine z.d3.g ?_;refine zn h (fun _ h=> ?_) (fun _ h=> ?_)
 ·refine z.a6.g ?_;refine f_nilrow (te:=3) (t:=4) 3004 1 ?_;apply zb [(3004,1)] hB h
 refine z.b.d8.g ?_;refine l_deref h (fun v2 _ h=> ?_);refine z.a.a2.g ?_;refine QH h (fun v3 _ h=> ?_);refine z.j4.a2.g ?_;refine k_nilrow (te:=3) (t:=5) 3005 1 ?_;refine zH (fun y4=>⟨[(0,oP ZN d),(5,.sl 3005 0 y4.2.length),(6,I y4.1)],[(3005,.row 3 1 0 (F cI y4.2))],[]⟩) (fun q8=>(.exit 0,⟨[(5,.sl 3005 0 q8.length)],[(3005,.row 3 1 0 (F cI q8))],[]⟩)) [(3005,3005)] hB h (fun y4 t h=> ?_) (fun q8 h=> ?_)
 ·unfold JH at h;refine z.u.T.g ?_;refine zn h (fun _ h=> ?_) (fun _ h=> ?_)
  ·refine z.C.a4.g ?_;refine QM (e:=cI) [y4.1] ?_;refine Q9 h (fun v5 _ h=> ?_);refine z.e4.E.g ?_;refine l_deref h (fun v6 _ h=> ?_);refine z.a.a2.g ?_;refine QH h (fun v7 _ h=> ?_);refine z.E.a2.g ?_;exact zu [(3005,3005)] hB h
  refine z.k.g ?_;exact zr [(3005,3005)] hB h
 refine z.l.i9.g ?_;apply zb [(3005,1)] hB h
theorem slices_Insert_int_ok {s:(List Int)}{i:Int}{v_:(List Int)}{r:(List Int)}(h:JM s i v_=some r):XSpec Tryz.prog 73 [.sl 101 0 s.length,I i,.sl 103 0 v_.length] [(101,.row 3 1 0 (F cI s)),(103,.row 3 1 0 (F cI v_))] (.sl 101 0 r.length) [(101,.row 3 1 0 (F cI r))] [103,101]:=by
 obtain ⟨⟨h0,h1,h2⟩,rfl⟩:=ins_some h
 have hi:((i.toNat:Nat):Int)=i:=Int.toNat_of_nonneg h0
 have:=ins_x Tryz.hU Tryz.insW73 rfl rfl rfl rfl (by decide) rfl rfl rfl (by decide) rfl (fun es w=>enters_of Tryz.func73 (by kernel_rfl) rfl es w) (e:=cI) (fun _=>rfl) s v_ i.toNat h1 h2
 rw [hi] at this
 exact this
theorem Qp {data:(List za)}{a:Int}{b:Int}{cmp:(za→za→Option Int)}{fk_cmp:Nat}{fc_cmp:List AV}(hf_cmp: ∀ {x0:za} {x1:za} {r:Int},cmp x0 x1=some r→XSpec Tryz.prog fk_cmp ((.agg (zk x0))::(.agg (zk x1))::fc_cmp) [] (I r) [] [])(hc_cmp:AV.closedL fc_cmp=true∧AV.onlyL [] fc_cmp=true){r:(List za)}(h:zy data a b cmp=some r):XSpec Tryz.prog 233 [.sl 101 0 data.length,I a,I b,.fn (.func fk_cmp) [] fc_cmp] [(101,.row 39 2 0 (F zk data))] (.tup []) [(101,.row 39 2 0 (F zk r))] []:=by
 unfold zy at h;refine zd Tryz.hU Tryz.func233 (fun _ _ _ hB=> ?_);refine z.j4.d6.b.g ?_;refine zH (fun y1=>⟨[(0,.sl 101 0 y1.2.length),(1,I a),(2,I b),(3,.fn (.func fk_cmp) [] fc_cmp),(8,I y1.1)],[(101,.row 39 2 0 (F zk y1.2))],[]⟩) (fun q14=>(.exit 0,⟨[],[(101,.row 39 2 0 (F zk q14))],[]⟩)) [(101,101)] hB h (fun y1 t h=> ?_) (fun q14 h=> ?_)
 ·unfold zS at h;refine z.i8.g ?_;refine zn h (fun _ h=> ?_) (fun _ h=> ?_)
  ·refine z.j4.k7.g ?_;refine zH (fun y2=>⟨[(0,.sl 101 0 y2.2.length),(1,I a),(2,I b),(3,.fn (.func fk_cmp) [] fc_cmp),(8,I y1.1),(9,I y2.1)],[(101,.row 39 2 0 (F zk y2.2))],[]⟩) (fun q13=>(.exit 2,⟨[(0,.sl 101 0 q13.length),(1,I a),(2,I b),(3,.fn (.func fk_cmp) [] fc_cmp),(8,I y1.1)],[(101,.row 39 2 0 (F zk q13))],[]⟩)) [(101,101)] hB h (fun y2 t h=> ?_) (fun q13 h=> ?_)
   ·unfold zR at h;refine z.H.H.g ?_;refine qW (fun q6=>(.normal,⟨[(0,.sl 101 0 y2.2.length),(1,I a),(2,I b),(3,.fn (.func fk_cmp) [] fc_cmp),(8,I y1.1),(9,I y2.1),(34,B q6)],[(101,.row 39 2 0 (F zk y2.2))],[]⟩)) h (fun t h=> ?_) (fun q6 h=> ?_)
    ·refine ZH [] (.q 0 (.q 1 (.q 2 (.q 3 (.q 4 (.q 5 (.q 6 (.q 7 (.q 8 (.q 9 (.q 10 (.q 11 (.q 12 (.q 13 (.e 14 (.q 15 (.q 16 .done))))))))))))))))) hm ?_;refine z.K.c0.f9.g ?_;refine QC h (fun _ h=> ?_) (fun _ h=> ?_)
     ·refine z.X.X.X.h2.g ?_;refine qc h (fun v3 ev3 h=> ?_);refine z.s.g ?_;refine Jf ev3 ?_;refine z.s.m3.X.X.s.g ?_;refine qc h (fun v4 ev4 h=> ?_);refine z.s.g ?_;refine Jf ev4 ?_;refine z.L.g ?_;refine n_callF hc_cmp h (fun _=>hf_cmp) (fun v5 _ h=> ?_);refine z.a0.d.c0.s.g ?_;exact zp [(101,101)] hB h
     refine z.d9.o7.a5.D.m9.o1.d2.d2.g ?_;exact zp [(101,101)] hB h
    refine f_t ?_;refine zn h (fun _ h=> ?_) (fun _ h=> ?_)
    ·refine z.a4.g ?_;refine ZH [15,17] (.q 0 (.q 1 (.q 5 (.q 6 (.q 7 (.q 8 (.q 9 (.q 10 (.q 11 (.q 12 (.q 13 (.q 14 (.s 2 (.s 3 (.alt 4 (.e 15 (.q 16 (.e 17 .done))) (.e 15 (.q 4 (.q 16 (.e 17 .done))))))))))))))))))) hm ?_;refine z.d.m3.f9.e2.e2.g ?_;refine qc h (fun v7 ev7 h=> ?_);refine gq ?_;refine Jf ev7 ?_;refine z.f9.g ?_;refine qc h (fun v8 ev8 h=> ?_);refine gq ?_;refine Jf ev8 ?_;refine gq ?_;refine qc h (fun v9 ev9 h=> ?_);refine z.k1.k1.g ?_;refine zW ?_ ?_
     ·refine z.D.m3.n8.g ?_;refine JK ev9 h (fun v10 ev10 h=> ?_);refine m_relen 39 v10.length ?_;refine gq ?_;refine qc h (fun v11 ev11 h=> ?_);refine ge ?_;refine JK ev11 h (fun v12 ev12 h=> ?_);refine z.E.S.e4.d9.g ?_;refine qQ 0 v12.length ?_;exact zu [(101,101)] hB h
     refine ge ?_;refine JK ev9 h (fun v10 ev10 h=> ?_);refine z.m3.d.g ?_;refine m_relen 39 v10.length ?_;refine gq ?_;refine qc h (fun v11 ev11 h=> ?_);refine ge ?_;refine JK ev11 h (fun v12 ev12 h=> ?_);refine z.E.S.e4.d9.g ?_;refine qQ 0 v12.length ?_;exact zu [(101,101)] hB h
    refine z.k.g ?_;exact zr [(101,101)] hB h
   refine z.c2.e4.n6.g ?_;exact zu [(101,101)] hB h
  refine z.k.g ?_;exact zr [(101,101)] hB h
 refine f_be ?_;apply zb [(101,101)] hB h
theorem ZM {data:(List za)}{a:Int}{b:Int}{n:Int}{cmp:(za→za→Option Int)}{fk_cmp:Nat}{fc_cmp:List AV}(hf_cmp: ∀ {x0:za} {x1:za} {r:Int},cmp x0 x1=some r→XSpec Tryz.prog fk_cmp ((.agg (zk x0))::(.agg (zk x1))::fc_cmp) [] (I r) [] [])(hc_cmp:AV.closedL fc_cmp=true∧AV.onlyL [] fc_cmp=true){r:(List za)}(h:zQ data a b n cmp=some r):XSpec Tryz.prog 272 [.sl 101 0 data.length,I a,I b,I n,.fn (.func fk_cmp) [] fc_cmp] [(101,.row 39 2 0 (F zk data))] (.tup []) [(101,.row 39 2 0 (F zk r))] []:=by
 unfold zQ at h;refine zd Tryz.hU Tryz.func272 (fun _ _ _ hB=> ?_);refine z.j4.c.g ?_;refine zH (fun y1=>⟨[(0,.sl 101 0 y1.2.length),(1,I a),(2,I b),(3,I n),(10,I y1.1)],[(101,.row 39 2 0 (F zk y1.2))],[]⟩) (fun q8=>(.exit 0,⟨[],[(101,.row 39 2 0 (F zk q8))],[]⟩)) [(101,101)] hB h (fun y1 t h=> ?_) (fun q8 h=> ?_)
 ·unfold qA at h;refine z.i8.g ?_;refine zn h (fun _ h=> ?_) (fun _ h=> ?_)
  ·refine z.a4.g ?_;refine ZH [21,23] (.q 0 (.q 1 (.q 2 (.q 3 (.q 8 (.q 9 (.q 10 (.q 11 (.q 12 (.q 13 (.q 14 (.q 15 (.q 16 (.q 17 (.q 18 (.q 19 (.q 20 (.s 4 (.s 5 (.s 6 (.alt 7 (.e 21 (.q 22 (.e 23 .done))) (.e 21 (.q 7 (.q 22 (.e 23 .done))))))))))))))))))))))))) hm ?_;refine z.d.m6.f9.e2.m6.f9.e2.g ?_;refine qc h (fun v2 ev2 h=> ?_);refine gq ?_;refine Jf ev2 ?_;refine z.d.m6.f9.e2.g ?_;refine qc h (fun v3 ev3 h=> ?_);refine gq ?_;refine Jf ev3 ?_;refine gq ?_;refine qc h (fun v4 ev4 h=> ?_);refine z.k1.k1.k1.g ?_;refine zW ?_ ?_
   ·refine z.D.m6.n8.g ?_;refine JK ev4 h (fun v5 ev5 h=> ?_);refine m_relen 20 v5.length ?_;refine gq ?_;refine qc h (fun v6 ev6 h=> ?_);refine ge ?_;refine JK ev6 h (fun v7 ev7 h=> ?_);refine z.c2.e4.d9.g ?_;refine qQ 0 v7.length ?_;exact zu [(101,101)] hB h
   refine ge ?_;refine JK ev4 h (fun v5 ev5 h=> ?_);refine z.m6.d.g ?_;refine m_relen 20 v5.length ?_;refine gq ?_;refine qc h (fun v6 ev6 h=> ?_);refine ge ?_;refine JK ev6 h (fun v7 ev7 h=> ?_);refine z.c2.e4.d9.g ?_;refine qQ 0 v7.length ?_;exact zu [(101,101)] hB h
  refine z.k.g ?_;exact zr [(101,101)] hB h
 refine f_be ?_;apply zb [(101,101)] hB h
theorem Jz {data:(List za)}{a:Int}{m:Int}{b:Int}{cmp:(za→za→Option Int)}{fk_cmp:Nat}{fc_cmp:List AV}(hf_cmp: ∀ {x0:za} {x1:za} {r:Int},cmp x0 x1=some r→XSpec Tryz.prog fk_cmp ((.agg (zk x0))::(.agg (zk x1))::fc_cmp) [] (I r) [] [])(hc_cmp:AV.closedL fc_cmp=true∧AV.onlyL [] fc_cmp=true){r:(List za)}(h:qq data a m b cmp=some r):XSpec Tryz.prog 259 [.sl 101 0 data.length,I a,I m,I b,.fn (.func fk_cmp) [] fc_cmp] [(101,.row 39 2 0 (F zk data))] (.tup []) [(101,.row 39 2 0 (F zk r))] []:=by
 unfold qq at h;refine zd Tryz.hU Tryz.func259 (fun _ _ _ hB=> ?_);refine z.c9.b4.S.p.S.i.g ?_;refine zH (fun y1=>⟨[(0,.sl 101 0 y1.2.2.length),(2,I m),(4,.fn (.func fk_cmp) [] fc_cmp),(10,I y1.1),(11,I y1.2.1)],[(101,.row 39 2 0 (F zk y1.2.2))],[]⟩) (fun q6=>(.exit 0,⟨[(0,.sl 101 0 q6.2.length),(2,I m),(4,.fn (.func fk_cmp) [] fc_cmp),(10,I q6.1)],[(101,.row 39 2 0 (F zk q6.2))],[]⟩)) [(101,101)] hB h (fun y1 t h=> ?_) (fun q6 h=> ?_)
 ·unfold qs at h;refine z.i8.g ?_;refine zn h (fun _ h=> ?_) (fun _ h=> ?_)
  ·refine z.u.i.k4.g ?_;refine zn h (fun _ h=> ?_) (fun _ h=> ?_)
   ·refine z.a.j5.S.a.i.g ?_;refine zi (hargs:=by (simp only [List.nil_append,List.append_nil,List.cons_append,AV.mapNL,AV.mapN,zz hc_cmp.1];rfl)) (hon:=by (simp only [List.nil_append,List.append_nil,List.cons_append,AV.onlyL,AV.only,zF hc_cmp.1];rfl)) [] [101] h (fun _=>ZM (fun h=>hf_cmp h) hc_cmp) (fun v2 _ h=> ?_);refine J0 h (fun ev3 h=> ?_);refine z.i6.S.C.e.g ?_;refine qQ 0 v2.length ?_;exact zu [(101,101)] hB h
   refine z.j5.S.q4.j5.S.a.i.g ?_;refine zi (hargs:=by (simp only [List.nil_append,List.append_nil,List.cons_append,AV.mapNL,AV.mapN,zz hc_cmp.1];rfl)) (hon:=by (simp only [List.nil_append,List.append_nil,List.cons_append,AV.onlyL,AV.only,zF hc_cmp.1];rfl)) [] [101] h (fun _=>ZM (fun h=>hf_cmp h) hc_cmp) (fun v4 _ h=> ?_);refine J0 h (fun ev5 h=> ?_);refine z.i6.S.C.e.g ?_;refine qQ 0 v4.length ?_;exact zu [(101,101)] hB h
  refine z.k.g ?_;exact zr [(101,101)] hB h
 refine z.a.j5.S.a.C.P.g ?_;refine zi (hargs:=by (simp only [List.nil_append,List.append_nil,List.cons_append,AV.mapNL,AV.mapN,zz hc_cmp.1];rfl)) (hon:=by (simp only [List.nil_append,List.append_nil,List.cons_append,AV.onlyL,AV.only,zF hc_cmp.1];rfl)) [] [101] h (fun _=>ZM (fun h=>hf_cmp h) hc_cmp) (fun v7 _ h=> ?_);refine J0 h (fun ev8 h=> ?_);refine k_nil ?_;apply zb [(101,101)] hB h
theorem slices_symMergeCmpFunc_Decl_F_ok {frec:((List za)→Int→Int→Int→(za→za→Option Int)→Option (List za))}(hrec: ∀ {data:(List za)} {a:Int} {m:Int} {b:Int} {cmp:(za→za→Option Int)} {fk_cmp:Nat} {fc_cmp:List AV} (hf_cmp: ∀ {x0:za} {x1:za} {r:Int},cmp x0 x1=some r→XSpec Tryz.prog fk_cmp ((.agg (zk x0))::(.agg (zk x1))::fc_cmp) [] (I r) [] []) (hc_cmp:AV.closedL fc_cmp=true∧AV.onlyL [] fc_cmp=true) {r:(List za)},frec data a m b cmp=some r→XSpec Tryz.prog 234 [.sl 101 0 data.length,I a,I m,I b,.fn (.func fk_cmp) [] fc_cmp] [(101,.row 39 2 0 (F zk data))] (.tup []) [(101,.row 39 2 0 (F zk r))] []){data:(List za)}{a:Int}{m:Int}{b:Int}{cmp:(za→za→Option Int)}{fk_cmp:Nat}{fc_cmp:List AV}(hf_cmp: ∀ {x0:za} {x1:za} {r:Int},cmp x0 x1=some r→XSpec Tryz.prog fk_cmp ((.agg (zk x0))::(.agg (zk x1))::fc_cmp) [] (I r) [] [])(hc_cmp:AV.closedL fc_cmp=true∧AV.onlyL [] fc_cmp=true){r:(List za)}(h:z8 frec data a m b cmp=some r):XSpec Tryz.prog 234 [.sl 101 0 data.length,I a,I m,I b,.fn (.func fk_cmp) [] fc_cmp] [(101,.row 39 2 0 (F zk data))] (.tup []) [(101,.row 39 2 0 (F zk r))] []:=by
 unfold z8 at h;refine zd Tryz.hU Tryz.func234 (fun _ _ _ hB=> ?_);refine z.u.S.m2.g ?_;refine zn h (fun _ h=> ?_) (fun _ h=> ?_)
 ·refine z.c9.b4.x.b.g ?_;refine zH (fun y1=>⟨[(0,.sl 101 0 data.length),(1,I a),(4,.fn (.func fk_cmp) [] fc_cmp),(10,I y1.1),(11,I y1.2)],[(101,.row 39 2 0 (F zk data))],[]⟩) (fun q5=>(.exit 0,⟨[(0,.sl 101 0 data.length),(1,I a),(10,I q5)],[(101,.row 39 2 0 (F zk data))],[]⟩)) [(101,101)] hB h (fun y1 t h=> ?_) (fun q5 h=> ?_)
  ·unfold zX at h;refine z.i8.g ?_;refine zn h (fun _ h=> ?_) (fun _ h=> ?_)
   ·refine z.h7.d6.i.k4.g ?_;refine QI (r:=((v64 (w64 (y1.1+y1.2))).fdiv (2^1))) ?_;refine z.b4.h7.g ?_;refine ZH [] (.q 0 (.q 1 (.q 2 (.q 3 (.q 4 (.q 5 (.q 6 (.q 7 (.q 8 (.e 9 (.q 10 .done))))))))))) hm ?_;refine z.f9.e2.g ?_;refine qc h (fun v2 ev2 h=> ?_);refine gq ?_;refine Jf ev2 ?_;refine z.f9.g ?_;refine qc h (fun v3 ev3 h=> ?_);refine gq ?_;refine Jf ev3 ?_;refine ge ?_;refine n_callF hc_cmp h (fun _=>hf_cmp) (fun v4 _ h=> ?_);refine z.j3.c0.d.g ?_;refine zn h (fun _ h=> ?_) (fun _ h=> ?_)
    ·refine z.h4.c2.h.g ?_;exact zu [(101,101)] hB h
    refine z.i6.h.g ?_;exact zu [(101,101)] hB h
   refine z.k.g ?_;exact zr [(101,101)] hB h
  refine z.j4.T.P.g ?_;refine zH (fun y6=>⟨[(0,.sl 101 0 y6.2.length),(10,I q5),(13,I y6.1)],[(101,.row 39 2 0 (F zk y6.2))],[]⟩) (fun q13=>(.exit 2,⟨[],[(101,.row 39 2 0 (F zk q13))],[]⟩)) [(101,101)] hB h (fun y6 t h=> ?_) (fun q13 h=> ?_)
  ·unfold zZ at h;refine z.u.S.m2.g ?_;refine zn h (fun _ h=> ?_) (fun _ h=> ?_)
   ·refine z.a4.g ?_;refine ZH [15,17] (.q 0 (.q 1 (.q 5 (.q 6 (.q 7 (.q 8 (.q 9 (.q 10 (.q 11 (.q 12 (.q 13 (.q 14 (.s 2 (.s 3 (.alt 4 (.e 15 (.q 16 (.e 17 .done))) (.e 15 (.q 4 (.q 16 (.e 17 .done))))))))))))))))))) hm ?_;refine z.d.m6.f9.e2.e2.g ?_;refine qc h (fun v7 ev7 h=> ?_);refine gq ?_;refine Jf ev7 ?_;refine z.f9.g ?_;refine qc h (fun v8 ev8 h=> ?_);refine gq ?_;refine Jf ev8 ?_;refine gq ?_;refine qc h (fun v9 ev9 h=> ?_);refine z.k1.k1.g ?_;refine zW ?_ ?_
    ·refine z.D.m6.n8.g ?_;refine JK ev9 h (fun v10 ev10 h=> ?_);refine m_relen 63 v10.length ?_;refine gq ?_;refine qc h (fun v11 ev11 h=> ?_);refine ge ?_;refine JK ev11 h (fun v12 ev12 h=> ?_);refine z.c2.e4.d9.g ?_;refine qQ 0 v12.length ?_;exact zu [(101,101)] hB h
    refine ge ?_;refine JK ev9 h (fun v10 ev10 h=> ?_);refine z.m6.d.g ?_;refine m_relen 63 v10.length ?_;refine gq ?_;refine qc h (fun v11 ev11 h=> ?_);refine ge ?_;refine JK ev11 h (fun v12 ev12 h=> ?_);refine z.c2.e4.d9.g ?_;refine qQ 0 v12.length ?_;exact zu [(101,101)] hB h
   refine z.k.g ?_;exact zr [(101,101)] hB h
  refine z.n2.l5.P.g ?_;apply zb [(101,101)] hB h
 refine z.u.S.i.d8.g ?_;refine zn h (fun _ h=> ?_) (fun _ h=> ?_)
 ·refine z.c9.b4.x.b.g ?_;refine zH (fun y14=>⟨[(0,.sl 101 0 data.length),(2,I m),(4,.fn (.func fk_cmp) [] fc_cmp),(14,I y14.1),(15,I y14.2)],[(101,.row 39 2 0 (F zk data))],[]⟩) (fun q18=>(.exit 4,⟨[(0,.sl 101 0 data.length),(2,I m),(14,I q18)],[(101,.row 39 2 0 (F zk data))],[]⟩)) [(101,101)] hB h (fun y14 t h=> ?_) (fun q18 h=> ?_)
  ·unfold z6 at h;refine z.i8.g ?_;refine zn h (fun _ h=> ?_) (fun _ h=> ?_)
   ·refine z.h7.d6.i.k4.g ?_;refine QI (r:=((v64 (w64 (y14.1+y14.2))).fdiv (2^1))) ?_;refine z.b4.h7.g ?_;refine ZH [] (.q 0 (.q 1 (.q 2 (.q 3 (.q 4 (.q 5 (.q 6 (.q 7 (.q 8 (.e 9 (.q 10 (.q 11 .done)))))))))))) hm ?_;refine z.f9.e2.g ?_;refine qc h (fun v15 ev15 h=> ?_);refine gq ?_;refine Jf ev15 ?_;refine z.f9.g ?_;refine qc h (fun v16 ev16 h=> ?_);refine gq ?_;refine Jf ev16 ?_;refine ge ?_;refine n_callF hc_cmp h (fun _=>hf_cmp) (fun v17 _ h=> ?_);refine z.j3.q5.d.c0.d.g ?_;refine zn h (fun _ h=> ?_) (fun _ h=> ?_)
    ·refine z.h4.c2.h.g ?_;exact zu [(101,101)] hB h
    refine z.i6.h.g ?_;exact zu [(101,101)] hB h
   refine z.k.g ?_;exact zr [(101,101)] hB h
  refine z.j4.T.P.g ?_;refine zH (fun y19=>⟨[(0,.sl 101 0 y19.2.length),(14,I q18),(17,I y19.1)],[(101,.row 39 2 0 (F zk y19.2))],[]⟩) (fun q26=>(.exit 6,⟨[],[(101,.row 39 2 0 (F zk q26))],[]⟩)) [(101,101)] hB h (fun y19 t h=> ?_) (fun q26 h=> ?_)
  ·unfold zY at h;refine z.i8.g ?_;refine zn h (fun _ h=> ?_) (fun _ h=> ?_)
   ·refine z.a4.g ?_;refine ZH [15,17] (.q 0 (.q 1 (.q 5 (.q 6 (.q 7 (.q 8 (.q 9 (.q 10 (.q 11 (.q 12 (.q 13 (.q 14 (.s 2 (.s 3 (.alt 4 (.e 15 (.q 16 (.e 17 .done))) (.e 15 (.q 4 (.q 16 (.e 17 .done))))))))))))))))))) hm ?_;refine z.d.m3.f9.e2.e2.g ?_;refine qc h (fun v20 ev20 h=> ?_);refine gq ?_;refine Jf ev20 ?_;refine z.f9.g ?_;refine qc h (fun v21 ev21 h=> ?_);refine gq ?_;refine Jf ev21 ?_;refine gq ?_;refine qc h (fun v22 ev22 h=> ?_);refine z.k1.k1.g ?_;refine zW ?_ ?_
    ·refine z.D.m3.n8.g ?_;refine JK ev22 h (fun v23 ev23 h=> ?_);refine m_relen 115 v23.length ?_;refine gq ?_;refine qc h (fun v24 ev24 h=> ?_);refine ge ?_;refine JK ev24 h (fun v25 ev25 h=> ?_);refine z.E.S.e4.d9.g ?_;refine qQ 0 v25.length ?_;exact zu [(101,101)] hB h
    refine ge ?_;refine JK ev22 h (fun v23 ev23 h=> ?_);refine z.m3.d.g ?_;refine m_relen 115 v23.length ?_;refine gq ?_;refine qc h (fun v24 ev24 h=> ?_);refine ge ?_;refine JK ev24 h (fun v25 ev25 h=> ?_);refine z.E.S.e4.d9.g ?_;refine qQ 0 v25.length ?_;exact zu [(101,101)] hB h
   refine z.k.g ?_;exact zr [(101,101)] hB h
  refine z.n2.l5.P.g ?_;apply zb [(101,101)] hB h
 refine z.h7.d6.f0.g ?_;refine QI (r:=((v64 (w64 (a+b))).fdiv (2^1))) ?_;refine z.u.i.b4.t.j.d6.p.h7.g ?_;refine zn h (fun _ h=> ?_) (fun _ h=> ?_)
 ·refine z.c9.b4.S.x.h.j.S.i.g ?_;refine zH (fun y27=>⟨[(0,.sl 101 0 data.length),(1,I a),(2,I m),(3,I b),(4,.fn (.func fk_cmp) [] fc_cmp),(18,I (w64 ((v64 (w64 (a+b))).fdiv (2^1)))),(19,I (w64 ((w64 ((v64 (w64 (a+b))).fdiv (2^1)))+m))),(20,I y27.1),(21,I y27.2),(22,I (w64 ((w64 ((w64 ((v64 (w64 (a+b))).fdiv (2^1)))+m))-1)))],[(101,.row 39 2 0 (F zk data))],[]⟩) (fun q31=>(.exit 8,⟨[(0,.sl 101 0 data.length),(1,I a),(2,I m),(3,I b),(4,.fn (.func fk_cmp) [] fc_cmp),(18,I q31.1),(19,I q31.2.1),(20,I q31.2.2)],[(101,.row 39 2 0 (F zk data))],[]⟩)) [(101,101)] hB h (fun y27 t h=> ?_) (fun q31 h=> ?_)
  ·unfold zM at h;refine z.i8.g ?_;refine zn h (fun _ h=> ?_) (fun _ h=> ?_)
   ·refine z.h7.d6.i.k4.g ?_;refine QI (r:=((v64 (w64 (y27.1+y27.2))).fdiv (2^1))) ?_;refine z.b4.h7.g ?_;refine ZH [] (.q 0 (.q 1 (.q 2 (.q 3 (.q 4 (.q 5 (.q 6 (.q 7 (.q 8 (.q 9 (.q 10 (.e 11 (.q 12 (.q 13 .done)))))))))))))) hm ?_;refine z.d.m3.f9.e2.e2.g ?_;refine qc h (fun v28 ev28 h=> ?_);refine gq ?_;refine Jf ev28 ?_;refine z.f9.g ?_;refine qc h (fun v29 ev29 h=> ?_);refine gq ?_;refine Jf ev29 ?_;refine ge ?_;refine n_callF hc_cmp h (fun _=>hf_cmp) (fun v30 _ h=> ?_);refine z.j3.q5.d.c0.d.g ?_;refine zn h (fun _ h=> ?_) (fun _ h=> ?_)
    ·refine z.h4.c2.h.g ?_;exact zu [(101,101)] hB h
    refine z.i6.h.g ?_;exact zu [(101,101)] hB h
   refine z.k.g ?_;exact zr [(101,101)] hB h
  refine z.f2.S.i.P.g ?_;refine qW (fun q32=>(.normal,⟨[(0,.sl 101 0 data.length),(1,I a),(2,I m),(3,I b),(4,.fn (.func fk_cmp) [] fc_cmp),(18,I q31.1),(20,I q31.2.2),(24,I (w64 (q31.2.1-q31.2.2))),(185,B q32)],[(101,.row 39 2 0 (F zk data))],[]⟩)) h (fun t h=> ?_) (fun q32 h=> ?_)
  ·refine z.w.C.g ?_;refine zc h (fun _ h=> ?_) (fun _ h=> ?_)
   ·refine z.O.v.r.g ?_;exact zp [(101,101)] hB h
   refine z.b6.o.g ?_;exact zp [(101,101)] hB h
  refine f_t ?_;refine zn h (fun _ h=> ?_) (fun _ h=> ?_)
  ·refine z.a.j1.g ?_;refine zi (hargs:=by (simp only [List.nil_append,List.append_nil,List.cons_append,AV.mapNL,AV.mapN,zz hc_cmp.1];rfl)) (hon:=by (simp only [List.nil_append,List.append_nil,List.cons_append,AV.onlyL,AV.only,zF hc_cmp.1];rfl)) [] [101] h (fun _=>Jz (fun h=>hf_cmp h) hc_cmp) (fun v33 _ h=> ?_);refine J0 h (fun ev41 h=> ?_);refine z.H.H.e.g ?_;refine qW (fun q34=>(.normal,⟨[(0,.sl 101 0 v33.length),(1,I a),(3,I b),(4,.fn (.func fk_cmp) [] fc_cmp),(18,I q31.1),(20,I q31.2.2),(24,I (w64 (q31.2.1-q31.2.2))),(199,B q34)],[(101,.row 39 2 0 (F zk v33))],[]⟩)) h (fun t h=> ?_) (fun q34 h=> ?_)
   ·refine z.w.C.g ?_;refine zc h (fun _ h=> ?_) (fun _ h=> ?_)
    ·refine z.O.v.r.g ?_;refine qQ 0 v33.length ?_;exact zp [(101,101)] hB h
    refine z.b6.o.g ?_;refine qQ 0 v33.length ?_;exact zp [(101,101)] hB h
   refine f_t ?_;refine zn h (fun _ h=> ?_) (fun _ h=> ?_)
   ·refine z.a.j1.g ?_;refine zi (hargs:=by (simp only [List.nil_append,List.append_nil,List.cons_append,AV.mapNL,AV.mapN,zz hc_cmp.1];rfl)) (hon:=by (simp only [List.nil_append,List.append_nil,List.cons_append,AV.onlyL,AV.only,zF hc_cmp.1];rfl)) [] [101] h (fun _=>hrec (fun h=>hf_cmp h) hc_cmp) (fun v35 _ h=> ?_);refine J0 h (fun ev38 h=> ?_);refine z.w.i.e.g ?_;refine zc h (fun _ h=> ?_) (fun _ h=> ?_)
    ·refine z.i2.v.r.g ?_;refine zn h (fun _ h=> ?_) (fun _ h=> ?_)
     ·refine z.a.j1.g ?_;refine l_relen 214 v35.length ?_;refine zi (hargs:=by (simp only [List.nil_append,List.append_nil,List.cons_append,AV.mapNL,AV.mapN,zz hc_cmp.1];rfl)) (hon:=by (simp only [List.nil_append,List.append_nil,List.cons_append,AV.onlyL,AV.only,zF hc_cmp.1];rfl)) [] [101] h (fun _=>hrec (fun h=>hf_cmp h) hc_cmp) (fun v36 _ h=> ?_);refine J0 h (fun ev37 h=> ?_);refine k_nil ?_;apply zb [(101,101)] hB h
     refine k_skip ?_;apply zb [(101,101)] hB h
    refine z.Y.h8.o.g ?_;apply zb [(101,101)] hB h
   refine z.w.f0.g ?_;refine zc h (fun _ h=> ?_) (fun _ h=> ?_)
   ·refine z.i2.v.r.g ?_;refine zn h (fun _ h=> ?_) (fun _ h=> ?_)
    ·refine z.a.j1.g ?_;refine zi (hargs:=by (simp only [List.nil_append,List.append_nil,List.cons_append,AV.mapNL,AV.mapN,zz hc_cmp.1];rfl)) (hon:=by (simp only [List.nil_append,List.append_nil,List.cons_append,AV.onlyL,AV.only,zF hc_cmp.1];rfl)) [] [101] h (fun _=>hrec (fun h=>hf_cmp h) hc_cmp) (fun v39 _ h=> ?_);refine J0 h (fun ev40 h=> ?_);refine k_nil ?_;apply zb [(101,101)] hB h
    refine k_skip ?_;apply zb [(101,101)] hB h
   refine z.Y.h8.o.g ?_;apply zb [(101,101)] hB h
  refine z.H.d8.g ?_;refine qW (fun q42=>(.normal,⟨[(0,.sl 101 0 data.length),(1,I a),(3,I b),(4,.fn (.func fk_cmp) [] fc_cmp),(18,I q31.1),(20,I q31.2.2),(24,I (w64 (q31.2.1-q31.2.2))),(199,B q42)],[(101,.row 39 2 0 (F zk data))],[]⟩)) h (fun t h=> ?_) (fun q42 h=> ?_)
  ·refine z.w.C.g ?_;refine zc h (fun _ h=> ?_) (fun _ h=> ?_)
   ·refine z.O.v.r.g ?_;exact zp [(101,101)] hB h
   refine z.b6.o.g ?_;exact zp [(101,101)] hB h
  refine f_t ?_;refine zn h (fun _ h=> ?_) (fun _ h=> ?_)
  ·refine z.a.j1.g ?_;refine zi (hargs:=by (simp only [List.nil_append,List.append_nil,List.cons_append,AV.mapNL,AV.mapN,zz hc_cmp.1];rfl)) (hon:=by (simp only [List.nil_append,List.append_nil,List.cons_append,AV.onlyL,AV.only,zF hc_cmp.1];rfl)) [] [101] h (fun _=>hrec (fun h=>hf_cmp h) hc_cmp) (fun v43 _ h=> ?_);refine J0 h (fun ev46 h=> ?_);refine z.w.i.e.g ?_;refine zc h (fun _ h=> ?_) (fun _ h=> ?_)
   ·refine z.i2.v.r.g ?_;refine zn h (fun _ h=> ?_) (fun _ h=> ?_)
    ·refine z.a.j1.g ?_;refine l_relen 214 v43.length ?_;refine zi (hargs:=by (simp only [List.nil_append,List.append_nil,List.cons_append,AV.mapNL,AV.mapN,zz hc_cmp.1];rfl)) (hon:=by (simp only [List.nil_append,List.append_nil,List.cons_append,AV.onlyL,AV.only,zF hc_cmp.1];rfl)) [] [101] h (fun _=>hrec (fun h=>hf_cmp h) hc_cmp) (fun v44 _ h=> ?_);refine J0 h (fun ev45 h=> ?_);refine k_nil ?_;apply zb [(101,101)] hB h
    refine k_skip ?_;apply zb [(101,101)] hB h
   refine z.Y.h8.o.g ?_;apply zb [(101,101)] hB h
  refine z.w.f0.g ?_;refine zc h (fun _ h=> ?_) (fun _ h=> ?_)
  ·refine z.i2.v.r.g ?_;refine zn h (fun _ h=> ?_) (fun _ h=> ?_)
   ·refine z.a.j1.g ?_;refine zi (hargs:=by (simp only [List.nil_append,List.append_nil,List.cons_append,AV.mapNL,AV.mapN,zz hc_cmp.1];rfl)) (hon:=by (simp only [List.nil_append,List.append_nil,List.cons_append,AV.onlyL,AV.only,zF hc_cmp.1];rfl)) [] [101] h (fun _=>hrec (fun h=>hf_cmp h) hc_cmp) (fun v47 _ h=> ?_);refine J0 h (fun ev48 h=> ?_);refine k_nil ?_;apply zb [(101,101)] hB h
   refine k_skip ?_;apply zb [(101,101)] hB h
  refine z.Y.h8.o.g ?_;apply zb [(101,101)] hB h
 refine z.c9.b4.S.x.h.j.b.g ?_;refine zH (fun y49=>⟨[(0,.sl 101 0 data.length),(1,I a),(2,I m),(3,I b),(4,.fn (.func fk_cmp) [] fc_cmp),(18,I (w64 ((v64 (w64 (a+b))).fdiv (2^1)))),(19,I (w64 ((w64 ((v64 (w64 (a+b))).fdiv (2^1)))+m))),(20,I y49.1),(21,I y49.2),(22,I (w64 ((w64 ((w64 ((v64 (w64 (a+b))).fdiv (2^1)))+m))-1)))],[(101,.row 39 2 0 (F zk data))],[]⟩) (fun q53=>(.exit 8,⟨[(0,.sl 101 0 data.length),(1,I a),(2,I m),(3,I b),(4,.fn (.func fk_cmp) [] fc_cmp),(18,I q53.1),(19,I q53.2.1),(20,I q53.2.2)],[(101,.row 39 2 0 (F zk data))],[]⟩)) [(101,101)] hB h (fun y49 t h=> ?_) (fun q53 h=> ?_)
 ·unfold qY at h;refine z.i8.g ?_;refine zn h (fun _ h=> ?_) (fun _ h=> ?_)
  ·refine z.h7.d6.i.k4.g ?_;refine QI (r:=((v64 (w64 (y49.1+y49.2))).fdiv (2^1))) ?_;refine z.b4.h7.g ?_;refine ZH [] (.q 0 (.q 1 (.q 2 (.q 3 (.q 4 (.q 5 (.q 6 (.q 7 (.q 8 (.q 9 (.q 10 (.e 11 (.q 12 (.q 13 .done)))))))))))))) hm ?_;refine z.d.m3.f9.e2.e2.g ?_;refine qc h (fun v50 ev50 h=> ?_);refine gq ?_;refine Jf ev50 ?_;refine z.f9.g ?_;refine qc h (fun v51 ev51 h=> ?_);refine gq ?_;refine Jf ev51 ?_;refine ge ?_;refine n_callF hc_cmp h (fun _=>hf_cmp) (fun v52 _ h=> ?_);refine z.j3.q5.d.c0.d.g ?_;refine zn h (fun _ h=> ?_) (fun _ h=> ?_)
   ·refine z.h4.c2.h.g ?_;exact zu [(101,101)] hB h
   refine z.i6.h.g ?_;exact zu [(101,101)] hB h
  refine z.k.g ?_;exact zr [(101,101)] hB h
 refine z.f2.S.i.P.g ?_;refine qW (fun q54=>(.normal,⟨[(0,.sl 101 0 data.length),(1,I a),(2,I m),(3,I b),(4,.fn (.func fk_cmp) [] fc_cmp),(18,I q53.1),(20,I q53.2.2),(24,I (w64 (q53.2.1-q53.2.2))),(185,B q54)],[(101,.row 39 2 0 (F zk data))],[]⟩)) h (fun t h=> ?_) (fun q54 h=> ?_)
 ·refine z.w.C.g ?_;refine zc h (fun _ h=> ?_) (fun _ h=> ?_)
  ·refine z.O.v.r.g ?_;exact zp [(101,101)] hB h
  refine z.b6.o.g ?_;exact zp [(101,101)] hB h
 refine f_t ?_;refine zn h (fun _ h=> ?_) (fun _ h=> ?_)
 ·refine z.a.j1.g ?_;refine zi (hargs:=by (simp only [List.nil_append,List.append_nil,List.cons_append,AV.mapNL,AV.mapN,zz hc_cmp.1];rfl)) (hon:=by (simp only [List.nil_append,List.append_nil,List.cons_append,AV.onlyL,AV.only,zF hc_cmp.1];rfl)) [] [101] h (fun _=>Jz (fun h=>hf_cmp h) hc_cmp) (fun v55 _ h=> ?_);refine J0 h (fun ev63 h=> ?_);refine z.H.H.e.g ?_;refine qW (fun q56=>(.normal,⟨[(0,.sl 101 0 v55.length),(1,I a),(3,I b),(4,.fn (.func fk_cmp) [] fc_cmp),(18,I q53.1),(20,I q53.2.2),(24,I (w64 (q53.2.1-q53.2.2))),(199,B q56)],[(101,.row 39 2 0 (F zk v55))],[]⟩)) h (fun t h=> ?_) (fun q56 h=> ?_)
  ·refine z.w.C.g ?_;refine zc h (fun _ h=> ?_) (fun _ h=> ?_)
   ·refine z.O.v.r.g ?_;refine qQ 0 v55.length ?_;exact zp [(101,101)] hB h
   refine z.b6.o.g ?_;refine qQ 0 v55.length ?_;exact zp [(101,101)] hB h
  refine f_t ?_;refine zn h (fun _ h=> ?_) (fun _ h=> ?_)
  ·refine z.a.j1.g ?_;refine zi (hargs:=by (simp only [List.nil_append,List.append_nil,List.cons_append,AV.mapNL,AV.mapN,zz hc_cmp.1];rfl)) (hon:=by (simp only [List.nil_append,List.append_nil,List.cons_append,AV.onlyL,AV.only,zF hc_cmp.1];rfl)) [] [101] h (fun _=>hrec (fun h=>hf_cmp h) hc_cmp) (fun v57 _ h=> ?_);refine J0 h (fun ev60 h=> ?_);refine z.w.i.e.g ?_;refine zc h (fun _ h=> ?_) (fun _ h=> ?_)
   ·refine z.i2.v.r.g ?_;refine zn h (fun _ h=> ?_) (fun _ h=> ?_)
    ·refine z.a.j1.g ?_;refine l_relen 214 v57.length ?_;refine zi (hargs:=by (simp only [List.nil_append,List.append_nil,List.cons_append,AV.mapNL,AV.mapN,zz hc_cmp.1];rfl)) (hon:=by (simp only [List.nil_append,List.append_nil,List.cons_append,AV.onlyL,AV.only,zF hc_cmp.1];rfl)) [] [101] h (fun _=>hrec (fun h=>hf_cmp h) hc_cmp) (fun v58 _ h=> ?_);refine J0 h (fun ev59 h=> ?_);refine k_nil ?_;apply zb [(101,101)] hB h
    refine k_skip ?_;apply zb [(101,101)] hB h
   refine z.Y.h8.o.g ?_;apply zb [(101,101)] hB h
  refine z.w.f0.g ?_;refine zc h (fun _ h=> ?_) (fun _ h=> ?_)
  ·refine z.i2.v.r.g ?_;refine zn h (fun _ h=> ?_) (fun _ h=> ?_)
   ·refine z.a.j1.g ?_;refine zi (hargs:=by (simp only [List.nil_append,List.append_nil,List.cons_append,AV.mapNL,AV.mapN,zz hc_cmp.1];rfl)) (hon:=by (simp only [List.nil_append,List.append_nil,List.cons_append,AV.onlyL,AV.only,zF hc_cmp.1];rfl)) [] [101] h (fun _=>hrec (fun h=>hf_cmp h) hc_cmp) (fun v61 _ h=> ?_);refine J0 h (fun ev62 h=> ?_);refine k_nil ?_;apply zb [(101,101)] hB h
   refine k_skip ?_;apply zb [(101,101)] hB h
  refine z.Y.h8.o.g ?_;apply zb [(101,101)] hB h
 refine z.H.d8.g ?_;refine qW (fun q64=>(.normal,⟨[(0,.sl 101 0 data.length),(1,I a),(3,I b),(4,.fn (.func fk_cmp) [] fc_cmp),(18,I q53.1),(20,I q53.2.2),(24,I (w64 (q53.2.1-q53.2.2))),(199,B q64)],[(101,.row 39 2 0 (F zk data))],[]⟩)) h (fun t h=> ?_) (fun q64 h=> ?_)
 ·refine z.w.C.g ?_;refine zc h (fun _ h=> ?_) (fun _ h=> ?_)
  ·refine z.O.v.r.g ?_;exact zp [(101,101)] hB h
  refine z.b6.o.g ?_;exact zp [(101,101)] hB h
 refine f_t ?_;refine zn h (fun _ h=> ?_) (fun _ h=> ?_)
 ·refine z.a.j1.g ?_;refine zi (hargs:=by (simp only [List.nil_append,List.append_nil,List.cons_append,AV.mapNL,AV.mapN,zz hc_cmp.1];rfl)) (hon:=by (simp only [List.nil_append,List.append_nil,List.cons_append,AV.onlyL,AV.only,zF hc_cmp.1];rfl)) [] [101] h (fun _=>hrec (fun h=>hf_cmp h) hc_cmp) (fun v65 _ h=> ?_);refine J0 h (fun ev68 h=> ?_);refine z.w.i.e.g ?_;refine zc h (fun _ h=> ?_) (fun _ h=> ?_)
  ·refine z.i2.v.r.g ?_;refine zn h (fun _ h=> ?_) (fun _ h=> ?_)
   ·refine z.a.j1.g ?_;refine l_relen 214 v65.length ?_;refine zi (hargs:=by (simp only [List.nil_append,List.append_nil,List.cons_append,AV.mapNL,AV.mapN,zz hc_cmp.1];rfl)) (hon:=by (simp only [List.nil_append,List.append_nil,List.cons_append,AV.onlyL,AV.only,zF hc_cmp.1];rfl)) [] [101] h (fun _=>hrec (fun h=>hf_cmp h) hc_cmp) (fun v66 _ h=> ?_);refine J0 h (fun ev67 h=> ?_);refine k_nil ?_;apply zb [(101,101)] hB h
   refine k_skip ?_;apply zb [(101,101)] hB h
  refine z.Y.h8.o.g ?_;apply zb [(101,101)] hB h
 refine z.w.f0.g ?_;refine zc h (fun _ h=> ?_) (fun _ h=> ?_)
 ·refine z.i2.v.r.g ?_;refine zn h (fun _ h=> ?_) (fun _ h=> ?_)
  ·refine z.a.j1.g ?_;refine zi (hargs:=by (simp only [List.nil_append,List.append_nil,List.cons_append,AV.mapNL,AV.mapN,zz hc_cmp.1];rfl)) (hon:=by (simp only [List.nil_append,List.append_nil,List.cons_append,AV.onlyL,AV.only,zF hc_cmp.1];rfl)) [] [101] h (fun _=>hrec (fun h=>hf_cmp h) hc_cmp) (fun v69 _ h=> ?_);refine J0 h (fun ev70 h=> ?_);refine k_nil ?_;apply zb [(101,101)] hB h
  refine k_skip ?_;apply zb [(101,101)] hB h
 refine z.Y.h8.o.g ?_;apply zb [(101,101)] hB h
theorem slices_symMergeCmpFunc_Decl_n_ok: ∀ (fuel:Nat) {data:(List za)} {a:Int} {m:Int} {b:Int} {cmp:(za→za→Option Int)} {fk_cmp:Nat} {fc_cmp:List AV} (hf_cmp: ∀ {x0:za} {x1:za} {r:Int},cmp x0 x1=some r→XSpec Tryz.prog fk_cmp ((.agg (zk x0))::(.agg (zk x1))::fc_cmp) [] (I r) [] []) (hc_cmp:AV.closedL fc_cmp=true∧AV.onlyL [] fc_cmp=true) {r:(List za)} (h:zw fuel data a m b cmp=some r),XSpec Tryz.prog 234 [.sl 101 0 data.length,I a,I m,I b,.fn (.func fk_cmp) [] fc_cmp] [(101,.row 39 2 0 (F zk data))] (.tup []) [(101,.row 39 2 0 (F zk r))] []:=by
 intro fuel
 induction fuel with
 |zero=>intro data a m b cmp fk_cmp fc_cmp hf_cmp hc_cmp r h;cases h
 |succ fuel ih=>
  intro data a m b cmp fk_cmp fc_cmp hf_cmp hc_cmp r h
  refine slices_symMergeCmpFunc_Decl_F_ok (frec:=zw fuel) ?_ (fun h=>hf_cmp h) hc_cmp h;exact @ih
theorem Jb {data:(List za)}{a:Int}{m:Int}{b:Int}{cmp:(za→za→Option Int)}{fk_cmp:Nat}{fc_cmp:List AV}(hf_cmp: ∀ {x0:za} {x1:za} {r:Int},cmp x0 x1=some r→XSpec Tryz.prog fk_cmp ((.agg (zk x0))::(.agg (zk x1))::fc_cmp) [] (I r) [] [])(hc_cmp:AV.closedL fc_cmp=true∧AV.onlyL [] fc_cmp=true){r:(List za)}(h:qz data a m b cmp=some r):XSpec Tryz.prog 234 [.sl 101 0 data.length,I a,I m,I b,.fn (.func fk_cmp) [] fc_cmp] [(101,.row 39 2 0 (F zk data))] (.tup []) [(101,.row 39 2 0 (F zk r))] []:=by
 obtain ⟨fuel,h⟩:=lim_some h;exact slices_symMergeCmpFunc_Decl_n_ok fuel (fun h=>hf_cmp h) hc_cmp h
theorem slices_stableCmpFunc_Decl_ok {data:(List za)}{n:Int}{cmp:(za→za→Option Int)}{fk_cmp:Nat}{fc_cmp:List AV}(hf_cmp: ∀ {x0:za} {x1:za} {r:Int},cmp x0 x1=some r→XSpec Tryz.prog fk_cmp ((.agg (zk x0))::(.agg (zk x1))::fc_cmp) [] (I r) [] [])(hc_cmp:AV.closedL fc_cmp=true∧AV.onlyL [] fc_cmp=true){r:(List za)}(h:Za data n cmp=some r):XSpec Tryz.prog 191 [.sl 101 0 data.length,I n,.fn (.func fk_cmp) [] fc_cmp] [(101,.row 39 2 0 (F zk data))] (.tup []) [(101,.row 39 2 0 (F zk r))] []:=by
 unfold Za at h;refine zd Tryz.hU Tryz.func191 (fun _ _ _ hB=> ?_);refine z.c9.b4.A.a8.g ?_;refine zH (fun y1=>⟨[(0,.sl 101 0 y1.2.2.length),(1,I n),(2,.fn (.func fk_cmp) [] fc_cmp),(6,I 20),(7,I y1.1),(8,I y1.2.1)],[(101,.row 39 2 0 (F zk y1.2.2))],[]⟩) (fun q4=>(.exit 0,⟨[(0,.sl 101 0 q4.2.length),(1,I n),(2,.fn (.func fk_cmp) [] fc_cmp),(6,I 20),(7,I q4.1)],[(101,.row 39 2 0 (F zk q4.2))],[]⟩)) [(101,101)] hB h (fun y1 t h=> ?_) (fun q4 h=> ?_)
 ·unfold zI at h;refine z.i8.g ?_;refine zn h (fun _ h=> ?_) (fun _ h=> ?_)
  ·refine z.j5.i.k4.g ?_;refine zi (hargs:=by (simp only [List.nil_append,List.append_nil,List.cons_append,AV.mapNL,AV.mapN,zz hc_cmp.1];rfl)) (hon:=by (simp only [List.nil_append,List.append_nil,List.cons_append,AV.onlyL,AV.only,zF hc_cmp.1];rfl)) [] [101] h (fun _=>Qp (fun h=>hf_cmp h) hc_cmp) (fun v2 _ h=> ?_);refine J0 h (fun ev3 h=> ?_);refine z.h4.c2.C.j.c8.g ?_;refine qQ 0 v2.length ?_;exact zu [(101,101)] hB h
  refine z.k.g ?_;exact zr [(101,101)] hB h
 refine z.j5.i.P.g ?_;refine zi (hargs:=by (simp only [List.nil_append,List.append_nil,List.cons_append,AV.mapNL,AV.mapN,zz hc_cmp.1];rfl)) (hon:=by (simp only [List.nil_append,List.append_nil,List.cons_append,AV.onlyL,AV.only,zF hc_cmp.1];rfl)) [] [101] h (fun _=>Qp (fun h=>hf_cmp h) hc_cmp) (fun v5 _ h=> ?_);refine J0 h (fun ev14 h=> ?_);refine z.l7.g ?_;refine k_relen 0 v5.length ?_;refine zH (fun y6=>⟨[(0,.sl 101 0 y6.2.length),(1,I n),(2,.fn (.func fk_cmp) [] fc_cmp),(6,I y6.1)],[(101,.row 39 2 0 (F zk y6.2))],[]⟩) (fun q13=>(.exit 2,⟨[],[(101,.row 39 2 0 (F zk q13))],[]⟩)) [(101,101)] hB h (fun y6 t h=> ?_) (fun q13 h=> ?_)
 ·unfold qf at h;refine z.i8.g ?_;refine zn h (fun _ h=> ?_) (fun _ h=> ?_)
  ·refine z.c9.b4.A.m7.b.k4.g ?_;refine zH (fun y7=>⟨[(0,.sl 101 0 y7.2.2.length),(1,I n),(2,.fn (.func fk_cmp) [] fc_cmp),(6,I y6.1),(7,I y7.1),(8,I y7.2.1)],[(101,.row 39 2 0 (F zk y7.2.2))],[]⟩) (fun q10=>(.exit 4,⟨[(0,.sl 101 0 q10.2.length),(1,I n),(2,.fn (.func fk_cmp) [] fc_cmp),(6,I y6.1),(7,I q10.1)],[(101,.row 39 2 0 (F zk q10.2))],[]⟩)) [(101,101)] hB h (fun y7 t h=> ?_) (fun q10 h=> ?_)
   ·unfold qg at h;refine z.i8.g ?_;refine zn h (fun _ h=> ?_) (fun _ h=> ?_)
    ·refine z.a.q4.j5.i.k4.g ?_;refine zi (hargs:=by (simp only [List.nil_append,List.append_nil,List.cons_append,AV.mapNL,AV.mapN,zz hc_cmp.1];rfl)) (hon:=by (simp only [List.nil_append,List.append_nil,List.cons_append,AV.onlyL,AV.only,zF hc_cmp.1];rfl)) [] [101] h (fun _=>Jb (fun h=>hf_cmp h) hc_cmp) (fun v8 _ h=> ?_);refine J0 h (fun ev9 h=> ?_);refine z.h4.c2.m7.C.j.c8.g ?_;refine qQ 0 v8.length ?_;exact zu [(101,101)] hB h
    refine z.k.g ?_;exact zr [(101,101)] hB h
   refine z.u.p.d6.m2.P.g ?_;refine zn h (fun _ h=> ?_) (fun _ h=> ?_)
   ·refine z.a.j1.g ?_;refine zi (hargs:=by (simp only [List.nil_append,List.append_nil,List.cons_append,AV.mapNL,AV.mapN,zz hc_cmp.1];rfl)) (hon:=by (simp only [List.nil_append,List.append_nil,List.cons_append,AV.onlyL,AV.only,zF hc_cmp.1];rfl)) [] [101] h (fun _=>Jb (fun h=>hf_cmp h) hc_cmp) (fun v11 _ h=> ?_);refine J0 h (fun ev12 h=> ?_);refine z.i6.m7.h.e.g ?_;refine qQ 0 v11.length ?_;exact zu [(101,101)] hB h
   refine z.i6.m7.h.I.g ?_;exact zu [(101,101)] hB h
  refine z.k.g ?_;exact zr [(101,101)] hB h
 refine f_be ?_;apply zb [(101,101)] hB h
theorem slices_SortStableFunc_Decl_ok {x:(List za)}{cmp:(za→za→Option Int)}{fk_cmp:Nat}{fc_cmp:List AV}(hf_cmp: ∀ {x0:za} {x1:za} {r:Int},cmp x0 x1=some r→XSpec Tryz.prog fk_cmp ((.agg (zk x0))::(.agg (zk x1))::fc_cmp) [] (I r) [] [])(hc_cmp:AV.closedL fc_cmp=true∧AV.onlyL [] fc_cmp=true){r:(List za)}(h:qU x cmp=some r):XSpec Tryz.prog 134 [.sl 101 0 x.length,.fn (.func fk_cmp) [] fc_cmp] [(101,.row 39 2 0 (F zk x))] (.tup []) [(101,.row 39 2 0 (F zk r))] []:=by
 unfold qU at h;refine zd Tryz.hU Tryz.func134 (fun _ _ _ hB=> ?_);refine z.a.N.C.g ?_;refine zi (hargs:=by (simp only [List.nil_append,List.append_nil,List.cons_append,AV.mapNL,AV.mapN,zz hc_cmp.1];rfl)) (hon:=by (simp only [List.nil_append,List.append_nil,List.cons_append,AV.onlyL,AV.only,zF hc_cmp.1];rfl)) [] [101] h (fun _=>slices_stableCmpFunc_Decl_ok (fun h=>hf_cmp h) hc_cmp) (fun v1 _ h=> ?_);refine J0 h (fun ev2 h=> ?_);refine k_nil ?_;apply zb [(101,101)] hB h
theorem cmp_isNaN_string_ok {x:Str}{r:Bool}(h:Q6 x=some r):XSpec Tryz.prog 192 [S x] [] (B r) [] []:=by
 unfold Q6 at h;refine zd Tryz.hU Tryz.func192 (fun _ _ _ hB=> ?_);refine z.l.j0.p.c.g ?_;apply zb [] hB h
theorem cmp_Compare_string_ok {x:Str}{y_:Str}{r:Int}(h:ZS x y_=some r):XSpec Tryz.prog 137 [S x,S y_] [] (I r) [] []:=by
 unfold ZS at h;refine zd Tryz.hU Tryz.func137 (fun _ _ _ hB=> ?_);refine z.a8.g ?_;refine zm h (fun _=>cmp_isNaN_string_ok) (fun v1 _ h=> ?_);refine z.x.g ?_;refine zm h (fun _=>cmp_isNaN_string_ok) (fun v2 _ h=> ?_);refine z.e.G.g ?_;refine zn h (fun _ h=> ?_) (fun _ h=> ?_)
 ·refine z.e.T.g ?_;refine zn h (fun _ h=> ?_) (fun _ h=> ?_)
  ·refine z.n2.a6.g ?_;apply zb [] hB h
  refine z.a6.I.g ?_;apply zb [] hB h
 refine z.e.b.d8.g ?_;refine zn h (fun _ h=> ?_) (fun _ h=> ?_)
 ·refine z.a6.g ?_;apply zb [] hB h
 refine z.e.t2.i.d8.g ?_;refine zn h (fun _ h=> ?_) (fun _ h=> ?_)
 ·refine z.a6.g ?_;apply zb [] hB h
 refine z.e.t3.i.d8.g ?_;refine zn h (fun _ h=> ?_) (fun _ h=> ?_)
 ·refine z.a6.g ?_;apply zb [] hB h
 refine z.b2.I.g ?_;apply zb [] hB h
theorem cmp_Or_int_ok {vals:(List Int)}{r:Int}(h:cmp_Or_int vals=some r):XSpec Tryz.prog 136 [.vs vals.length (F cI vals)] [] (I r) [] []:=by
 unfold cmp_Or_int at h;refine zd Tryz.hU Tryz.func136 (fun _ _ _ hB=> ?_);refine z.e6.e9.j.c.g ?_;refine zH (fun y1=>⟨[(3,I 0),(6,.vs vals.length (F cI vals)),(7,I (vals.length:Int)),(8,I y1)],[],[]⟩) (Sum.elim (fun q3=>(.ret,⟨[(2,I q3)],[],[]⟩)) (fun q4=>(.exit 0,⟨[(3,I 0)],[],[]⟩))) [] hB h (fun y1 t h=> ?_) (fun q h=> ?_)
 ·unfold cmp_Or_int_b1 at h;refine z.b8.g ?_;refine zn h (fun _ h=> ?_) (fun _ h=> ?_)
  ·refine z.c.a4.g ?_;refine QH h (fun v2 _ h=> ?_);refine z.u.p.l2.g ?_;refine zn h (fun _ h=> ?_) (fun _ h=> ?_)
   ·refine z.F.b.g ?_;exact zr [] hB h
   refine z.e3.g ?_;exact zu [] hB h
  refine z.k.g ?_;exact zr [] hB h
 rcases q with q3|q4
 ·dsimp only [Sum.elim] at h ⊢
  refine z.a1.g ?_;apply zb [] hB h
 dsimp only [Sum.elim] at h ⊢
 refine z.l.i9.g ?_;apply zb [] hB h
theorem space_Sorted_c1_ok {a:za}{b:za}{r:Int}(h:JB a b=some r):XSpec Tryz.prog 135 [.agg (zk a),.agg (zk b)] [] (I r) [] []:=by
 unfold JB at h;refine zd Tryz.hU Tryz.func135 (fun _ _ _ hB=> ?_);refine z.b4.l3.l3.c.g ?_;refine ZH [] (.q 0 (.q 1 (.q 2 (.q 3 (.q 5 (.q 6 (.q 7 (.q 8 (.e 4 (.e 9 (.e 10 (.e 11 (.q 12 .done))))))))))))) hm ?_;refine z.D.n4.n4.n4.n4.g ?_;refine n_call h (fun _=>cmp_Compare_string_ok) (fun v1 _ h=> ?_);refine ge ?_;refine n_call h (fun _=>cmp_Compare_string_ok) (fun v2 _ h=> ?_);refine ge ?_;refine n_lit (e:=cI) [v1,v2] ?_;refine ge ?_;refine n_callB h (fun _=>cmp_Or_int_ok) (fun v3 _ h=> ?_);refine z.l5.j3.m1.d.g ?_;apply zb [] hB h
theorem space_Sorted_ok {l:(List za)}{r:(List za)}(h:J7 l=some r):XSpec Tryz.prog 75 [.vs l.length (F zk l)] [] (.sl 1 0 r.length) [(1,.row 39 2 0 (F zk r))] []:=by
 unfold J7 at h;refine zd Tryz.hU Tryz.func75 (fun _ _ _ hB=> ?_);refine z.a8.g ?_;refine zi [(1,100501)] [] h (fun _=>slices_Clone_Decl_ok) (fun v1 _ h=> ?_);refine z.x.g ?_;refine zi [(101,100501)] [100501] h (fun _=>slices_SortStableFunc_Decl_ok (fun h=>space_Sorted_c1_ok h) ⟨rfl,rfl⟩) (fun v2 _ h=> ?_);refine J0 h (fun ev3 h=> ?_);refine z.l.c8.g ?_;refine qQ 2 v2.length ?_;apply zb [(100501,1)] hB h
theorem space_Scope_ok {d:(Option Zb)}{n:Int}{r:(List za)}(h:QO d n=some r):XSpec Tryz.prog 25 [oP ZN d,I n] [] (.sl 1 0 r.length) [(1,.row 39 2 0 (F zk r))] []:=by
 unfold QO at h;refine zd Tryz.hU Tryz.func25 (fun _ _ _ hB=> ?_);refine z.i.k3.g ?_;refine zm h (fun _=>QK) (fun v1 _ h=> ?_);refine z.u.p4.g ?_;refine zn h (fun _ h=> ?_) (fun _ h=> ?_)
 ·refine z.a6.g ?_;refine f_nilrow (te:=39) (t:=4) 3004 2 ?_;apply zb [(3004,1)] hB h
 refine z.s0.c.I.g ?_;refine l_mput keyS (ev:=(fun v=>B v)) (m:=[]) (k:=[120,109,108]) true ?_;refine z.l0.c.j.a.g ?_;refine QM (e:=zk) [(za.mk [120,109,108] [104,116,116,112,58,47,47,119,119,119,46,119,51,46,111,114,103,47,88,77,76,47,49,57,57,56,47,110,97,109,101,115,112,97,99,101])] ?_;refine z.i.b4.g ?_;refine zi [(1,102201)] [] h (fun _=>doc_Doc_Up_ok) (fun v2 _ h=> ?_);refine l_move ?_;refine QM (e:=cI) [n] ?_;refine zi [(101,102201),(103,1024)] [102201,1024] h (fun _=>slices_Insert_int_ok) (fun v3 _ h=> ?_);refine l_to [(1016,1016),(1019,1019),(102201,102201)] ⟨[(0,oP ZN d),(5,.mp 1016),(6,.sl 1019 0 ([(za.mk [120,109,108] [104,116,116,112,58,47,47,119,119,119,46,119,51,46,111,114,103,47,88,77,76,47,49,57,57,56,47,110,97,109,101,115,112,97,99,101])].length)),(25,.sl 102201 0 v3.length)],[(1016,.map (MP kS (fun v=>B v) (mput [] [120,109,108] true))),(1019,.row 39 2 0 (F zk [(za.mk [120,109,108] [104,116,116,112,58,47,47,119,119,119,46,119,51,46,111,114,103,47,88,77,76,47,49,57,57,56,47,110,97,109,101,115,112,97,99,101])])),(102201,.row 3 1 0 (F cI v3))],[1024,102201]⟩ hB ?_;refine z.e6.g ?_;refine zH (fun y4=>⟨[(0,oP ZN d),(5,.mp 1016),(6,.sl 1019 0 y4.2.2.length),(25,.sl 102201 0 v3.length),(26,I (v3.length:Int)),(27,I y4.1)],[(1016,.map (MP kS (fun v=>B v) y4.2.1)),(1019,.row 39 2 0 (F zk y4.2.2)),(102201,.row 3 1 0 (F cI v3))],[1024,102201]⟩) (fun q11=>(.exit 0,⟨[(6,.sl 1019 0 q11.length)],[(1019,.row 39 2 0 (F zk q11))],[1024,102201]⟩)) [(1016,1016),(1019,1019),(102201,102201)] hB h (fun y4 t h=> ?_) (fun q11 h=> ?_)
 ·unfold Qs at h;refine z.b8.g ?_;refine zn h (fun _ h=> ?_) (fun _ h=> ?_)
  ·refine z.c.a4.g ?_;refine Jg h (fun v5 ev5 h=> ?_);refine Jc ev5 ?_;refine z.p.g ?_;refine zm h (fun _=>QK) (fun v6 _ h=> ?_);refine z.e6.p4.g ?_;refine zH (fun y7=>⟨[(0,oP ZN d),(5,.mp 1016),(6,.sl 1019 0 y7.2.2.length),(25,.sl 102201 0 v3.length),(26,I (v3.length:Int)),(27,I y4.1),(34,.vs v6.Decls.length (F zk v6.Decls)),(35,I (v6.Decls.length:Int)),(36,I y7.1)],[(1016,.map (MP kS (fun v=>B v) y7.2.1)),(1019,.row 39 2 0 (F zk y7.2.2)),(102201,.row 3 1 0 (F cI v3))],[1024,102201]⟩) (fun q10=>(.exit 2,⟨[(0,oP ZN d),(5,.mp 1016),(6,.sl 1019 0 q10.2.length),(25,.sl 102201 0 v3.length),(26,I (v3.length:Int)),(27,I y4.1)],[(1016,.map (MP kS (fun v=>B v) q10.1)),(1019,.row 39 2 0 (F zk q10.2)),(102201,.row 3 1 0 (F cI v3))],[1024,102201]⟩)) [(1016,1016),(1019,1019),(102201,102201)] hB h (fun y7 t h=> ?_) (fun q10 h=> ?_)
   ·unfold Qr at h;refine z.b8.g ?_;refine zn h (fun _ h=> ?_) (fun _ h=> ?_)
    ·refine z.c.a4.g ?_;refine QH h (fun v8 _ h=> ?_);refine z.a2.T.f4.f3.d5.g ?_;refine l_mget1 keyS (ev:=(fun v=>B v)) (m:=y7.2.1) (k:=v8.Prefix) false ?_;refine z.h0.g ?_;refine zc h (fun _ h=> ?_) (fun _ h=> ?_)
     ·refine z.i2.j0.J.g ?_;refine zn h (fun _ h=> ?_) (fun _ h=> ?_)
      ·refine z.d5.h.g ?_;refine QM (e:=zk) [v8] ?_;refine Q9 h (fun v9 _ h=> ?_);refine z.a2.h.j.g ?_;refine l_mupd keyS (ev:=(fun v=>B v)) (m:=y7.2.1) (k:=v8.Prefix) true ?_;refine z.e1.d4.g ?_;exact zu [(1016,1016),(1019,1019),(102201,102201)] hB h
      refine z.a2.h.I.g ?_;refine l_mupd keyS (ev:=(fun v=>B v)) (m:=y7.2.1) (k:=v8.Prefix) true ?_;refine z.e1.d4.g ?_;exact zu [(1016,1016),(1019,1019),(102201,102201)] hB h
     refine z.a2.h.I.h8.o.g ?_;refine l_mupd keyS (ev:=(fun v=>B v)) (m:=y7.2.1) (k:=v8.Prefix) true ?_;refine z.e1.d4.g ?_;exact zu [(1016,1016),(1019,1019),(102201,102201)] hB h
    refine z.k.g ?_;exact zr [(1016,1016),(1019,1019),(102201,102201)] hB h
   refine z.e1.n6.g ?_;exact zu [(1016,1016),(1019,1019),(102201,102201)] hB h
  refine z.k.g ?_;exact zr [(1019,1019)] hB h
 refine z.i9.g ?_;refine l_frz 1019 ?_;refine zi [(1,106001)] [] h (fun _=>space_Sorted_ok) (fun v12 _ h=> ?_);refine z.l.g ?_;apply zb [(106001,1)] hB h
end Go.Proofs.YtojbjdcflgeibaaGreatDoor
