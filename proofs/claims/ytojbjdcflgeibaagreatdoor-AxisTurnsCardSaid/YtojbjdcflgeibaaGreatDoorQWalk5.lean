/- WALKS, printed by aw.py: that the program's functions compute the plain ones. Conditions: none. -/
import Derived.Test.YtojbjdcflgeibaaGreatDoorQWalk4
set_option linter.unusedVariables false
set_option linter.unusedSimpArgs false
set_option maxRecDepth 20000
set_option maxHeartbeats 4000000
namespace Go.Proofs.YtojbjdcflgeibaaGreatDoor
open Go Go.Abs W G
theorem doc_Doc_End_ok {d:(Option qg)}{n:Int}{r:Int}(h:ZA d n=some r):XSpec Tryz.prog 19 [oP Zs d,I n] [] (I r) [] []:=by
 unfold ZA at h;refine zc Tryz.hU Tryz.func19 (fun _ _ _ hB=> ?_);refine z.i.k4.g ?_;refine zo h (fun _=>doc_Doc_has_ok) (fun v1 _ h=> ?_);refine z.d4.g ?_;refine zn h (fun _ h=> ?_) (fun _ h=> ?_)
 ·refine z.S.g ?_;apply za [] hB h
 refine z.t.g ?_;refine l_deref h (fun v2 _ h=> ?_);refine z.a.G.g ?_;refine Qh h (fun v3 _ h=> ?_);refine z.h.h7.g ?_;apply za [] hB h
theorem doc_Doc_Up_ok {d:(Option qg)}{n:Int}{r:(List Int)}(h:Je d n=some r):XSpec Tryz.prog 74 [oP Zs d,I n] [] (.sl 1 0 r.length) [(1,.row 3 1 0 (F cI r))] []:=by
 unfold Je at h;refine zc Tryz.hU Tryz.func74 (fun _ _ _ hB=> ?_);refine z.i.k4.o.c.g ?_;refine zo h (fun _=>doc_Doc_has_ok) (fun v1 _ h=> ?_);refine z.d4.g ?_;refine zn h (fun _ h=> ?_) (fun _ h=> ?_)
 ·refine z.S.g ?_;refine Jv (te:=3) (t:=4) 3004 1 ?_;apply za [(3004,1)] hB h
 refine z.b.e3.g ?_;refine l_deref h (fun v2 _ h=> ?_);refine z.a.G.g ?_;refine Qh h (fun v3 _ h=> ?_);refine z.h8.G.g ?_;refine k_nilrow (te:=3) (t:=5) 3005 1 ?_;refine zF (fun y4=>⟨[(0,oP Zs d),(5,.sl 3005 0 y4.2.length),(6,I y4.1)],[(3005,.row 3 1 0 (F cI y4.2))],[]⟩) (fun q8=>(.exit 0,⟨[(5,.sl 3005 0 q8.length)],[(3005,.row 3 1 0 (F cI q8))],[]⟩)) [(3005,3005)] hB h (fun y4 t h=> ?_) (fun q8 h=> ?_)
 ·unfold Jb at h;refine z.q.V.g ?_;refine zn h (fun _ h=> ?_) (fun _ h=> ?_)
  ·refine z.y.W.g ?_;refine Z6 (e:=cI) [y4.1] ?_;refine Jp h (fun v5 _ h=> ?_);refine z.m9.s.g ?_;refine l_deref h (fun v6 _ h=> ?_);refine z.a.G.g ?_;refine Qh h (fun v7 _ h=> ?_);refine z.s.G.g ?_;exact zu [(3005,3005)] hB h
  refine z.l.g ?_;exact zr [(3005,3005)] hB h
 refine z.h.k7.g ?_;apply za [(3005,1)] hB h
theorem slices_Insert_int_ok {s:(List Int)}{i:Int}{v_:(List Int)}{r:(List Int)}(h:slices_Insert_int s i v_=some r):XSpec Tryz.prog 73 [.sl 101 0 s.length,I i,.sl 103 0 v_.length] [(101,.row 3 1 0 (F cI s)),(103,.row 3 1 0 (F cI v_))] (.sl 101 0 r.length) [(101,.row 3 1 0 (F cI r))] [103,101]:=by
 obtain ⟨⟨h0,h1,h2⟩,rfl⟩:=ins_some h
 have hi:((i.toNat:Nat):Int)=i:=Int.toNat_of_nonneg h0
 have:=ins_x Tryz.hU Tryz.insW73 rfl rfl rfl rfl (by decide) rfl rfl rfl (by decide) rfl (fun es w=>enters_of Tryz.func73 (by kernel_rfl) rfl es w) (e:=cI) (fun _=>rfl) s v_ i.toNat h1 h2
 rw [hi] at this
 exact this
theorem QA {data:(List zb)}{a:Int}{b:Int}{cmp:(zb→zb→Option Int)}{fk_cmp:Nat}{fc_cmp:List AV}(hf_cmp: ∀ {x0:zb} {x1:zb} {r:Int},cmp x0 x1=some r→XSpec Tryz.prog fk_cmp ((.agg (zl x0))::(.agg (zl x1))::fc_cmp) [] (I r) [] [])(hc_cmp:AV.closedL fc_cmp=true∧AV.onlyL [] fc_cmp=true){r:(List zb)}(h:zV data a b cmp=some r):XSpec Tryz.prog 233 [.sl 101 0 data.length,I a,I b,.fn (.func fk_cmp) [] fc_cmp] [(101,.row 39 2 0 (F zl data))] (.tup []) [(101,.row 39 2 0 (F zl r))] []:=by
 unfold zV at h;refine zc Tryz.hU Tryz.func233 (fun _ _ _ hB=> ?_);refine z.h8.c9.b.g ?_;refine zF (fun y1=>⟨[(0,.sl 101 0 y1.2.length),(1,I a),(2,I b),(3,.fn (.func fk_cmp) [] fc_cmp),(8,I y1.1)],[(101,.row 39 2 0 (F zl y1.2))],[]⟩) (fun q14=>(.exit 0,⟨[],[(101,.row 39 2 0 (F zl q14))],[]⟩)) [(101,101)] hB h (fun y1 t h=> ?_) (fun q14 h=> ?_)
 ·unfold qr at h;refine z.i0.g ?_;refine zn h (fun _ h=> ?_) (fun _ h=> ?_)
  ·refine z.h8.j7.g ?_;refine zF (fun y2=>⟨[(0,.sl 101 0 y2.2.length),(1,I a),(2,I b),(3,.fn (.func fk_cmp) [] fc_cmp),(8,I y1.1),(9,I y2.1)],[(101,.row 39 2 0 (F zl y2.2))],[]⟩) (fun q13=>(.exit 2,⟨[(0,.sl 101 0 q13.length),(1,I a),(2,I b),(3,.fn (.func fk_cmp) [] fc_cmp),(8,I y1.1)],[(101,.row 39 2 0 (F zl q13))],[]⟩)) [(101,101)] hB h (fun y2 t h=> ?_) (fun q13 h=> ?_)
   ·unfold qs at h;refine z.T.T.g ?_;refine qQ (fun q6=>(.normal,⟨[(0,.sl 101 0 y2.2.length),(1,I a),(2,I b),(3,.fn (.func fk_cmp) [] fc_cmp),(8,I y1.1),(9,I y2.1),(34,B q6)],[(101,.row 39 2 0 (F zl y2.2))],[]⟩)) h (fun t h=> ?_) (fun q6 h=> ?_)
    ·refine qX [] (.q 0 (.q 1 (.q 2 (.q 3 (.q 4 (.q 5 (.q 6 (.q 7 (.q 8 (.q 9 (.q 10 (.q 11 (.q 12 (.q 13 (.e 14 (.q 15 (.q 16 .done))))))))))))))))) hm ?_;refine z.A.b3.e5.g ?_;refine QP h (fun _ h=> ?_) (fun _ h=> ?_)
     ·refine z.b8.b8.b8.h0.g ?_;refine zU h (fun v3 ev3 h=> ?_);refine z.u.g ?_;refine Jt ev3 ?_;refine z.u.n1.b8.b8.u.g ?_;refine zU h (fun v4 ev4 h=> ?_);refine z.u.g ?_;refine Jt ev4 ?_;refine z.L.g ?_;refine n_callF hc_cmp h (fun _=>hf_cmp) (fun v5 _ h=> ?_);refine z.a0.d.b3.u.g ?_;exact zq [(101,101)] hB h
     refine z.d9.p7.X.v.n7.o6.f4.f4.g ?_;exact zq [(101,101)] hB h
    refine f_t ?_;refine zn h (fun _ h=> ?_) (fun _ h=> ?_)
    ·refine z.W.g ?_;refine qX [15,17] (.q 0 (.q 1 (.q 5 (.q 6 (.q 7 (.q 8 (.q 9 (.q 10 (.q 11 (.q 12 (.q 13 (.q 14 (.s 2 (.s 3 (.alt 4 (.e 15 (.q 16 (.e 17 .done))) (.e 15 (.q 4 (.q 16 (.e 17 .done))))))))))))))))))) hm ?_;refine z.d.n1.e5.e9.e9.g ?_;refine zU h (fun v7 ev7 h=> ?_);refine gq ?_;refine Jt ev7 ?_;refine z.e5.g ?_;refine zU h (fun v8 ev8 h=> ?_);refine gq ?_;refine Jt ev8 ?_;refine gq ?_;refine zU h (fun v9 ev9 h=> ?_);refine z.j0.j0.g ?_;refine zQ ?_ ?_
     ·refine z.v.n1.o3.g ?_;refine Ju ev9 h (fun v10 ev10 h=> ?_);refine zaM 39 v10.length ?_;refine gq ?_;refine zU h (fun v11 ev11 h=> ?_);refine ge ?_;refine Ju ev11 h (fun v12 ev12 h=> ?_);refine z.s.R.m9.d9.g ?_;refine qj 0 v12.length ?_;exact zu [(101,101)] hB h
     refine ge ?_;refine Ju ev9 h (fun v10 ev10 h=> ?_);refine z.n1.d.g ?_;refine zaM 39 v10.length ?_;refine gq ?_;refine zU h (fun v11 ev11 h=> ?_);refine ge ?_;refine Ju ev11 h (fun v12 ev12 h=> ?_);refine z.s.R.m9.d9.g ?_;refine qj 0 v12.length ?_;exact zu [(101,101)] hB h
    refine z.l.g ?_;exact zr [(101,101)] hB h
   refine z.k0.n9.g ?_;exact zu [(101,101)] hB h
  refine z.l.g ?_;exact zr [(101,101)] hB h
 refine f_be ?_;apply za [(101,101)] hB h
theorem ZO {data:(List zb)}{a:Int}{b:Int}{n:Int}{cmp:(zb→zb→Option Int)}{fk_cmp:Nat}{fc_cmp:List AV}(hf_cmp: ∀ {x0:zb} {x1:zb} {r:Int},cmp x0 x1=some r→XSpec Tryz.prog fk_cmp ((.agg (zl x0))::(.agg (zl x1))::fc_cmp) [] (I r) [] [])(hc_cmp:AV.closedL fc_cmp=true∧AV.onlyL [] fc_cmp=true){r:(List zb)}(h:qB data a b n cmp=some r):XSpec Tryz.prog 272 [.sl 101 0 data.length,I a,I b,I n,.fn (.func fk_cmp) [] fc_cmp] [(101,.row 39 2 0 (F zl data))] (.tup []) [(101,.row 39 2 0 (F zl r))] []:=by
 unfold qB at h;refine zc Tryz.hU Tryz.func272 (fun _ _ _ hB=> ?_);refine z.h8.c.g ?_;refine zF (fun y1=>⟨[(0,.sl 101 0 y1.2.length),(1,I a),(2,I b),(3,I n),(10,I y1.1)],[(101,.row 39 2 0 (F zl y1.2))],[]⟩) (fun q8=>(.exit 0,⟨[],[(101,.row 39 2 0 (F zl q8))],[]⟩)) [(101,101)] hB h (fun y1 t h=> ?_) (fun q8 h=> ?_)
 ·unfold Jh at h;refine z.i0.g ?_;refine zn h (fun _ h=> ?_) (fun _ h=> ?_)
  ·refine z.W.g ?_;refine qX [21,23] (.q 0 (.q 1 (.q 2 (.q 3 (.q 8 (.q 9 (.q 10 (.q 11 (.q 12 (.q 13 (.q 14 (.q 15 (.q 16 (.q 17 (.q 18 (.q 19 (.q 20 (.s 4 (.s 5 (.s 6 (.alt 7 (.e 21 (.q 22 (.e 23 .done))) (.e 21 (.q 7 (.q 22 (.e 23 .done))))))))))))))))))))))))) hm ?_;refine z.d.n0.e5.e9.n0.e5.e9.g ?_;refine zU h (fun v2 ev2 h=> ?_);refine gq ?_;refine Jt ev2 ?_;refine z.d.n0.e5.e9.g ?_;refine zU h (fun v3 ev3 h=> ?_);refine gq ?_;refine Jt ev3 ?_;refine gq ?_;refine zU h (fun v4 ev4 h=> ?_);refine z.j0.j0.j0.g ?_;refine zQ ?_ ?_
   ·refine z.v.n0.o3.g ?_;refine Ju ev4 h (fun v5 ev5 h=> ?_);refine zaM 20 v5.length ?_;refine gq ?_;refine zU h (fun v6 ev6 h=> ?_);refine ge ?_;refine Ju ev6 h (fun v7 ev7 h=> ?_);refine z.k0.d9.g ?_;refine qj 0 v7.length ?_;exact zu [(101,101)] hB h
   refine ge ?_;refine Ju ev4 h (fun v5 ev5 h=> ?_);refine z.n0.d.g ?_;refine zaM 20 v5.length ?_;refine gq ?_;refine zU h (fun v6 ev6 h=> ?_);refine ge ?_;refine Ju ev6 h (fun v7 ev7 h=> ?_);refine z.k0.d9.g ?_;refine qj 0 v7.length ?_;exact zu [(101,101)] hB h
  refine z.l.g ?_;exact zr [(101,101)] hB h
 refine f_be ?_;apply za [(101,101)] hB h
theorem J2 {data:(List zb)}{a:Int}{m:Int}{b:Int}{cmp:(zb→zb→Option Int)}{fk_cmp:Nat}{fc_cmp:List AV}(hf_cmp: ∀ {x0:zb} {x1:zb} {r:Int},cmp x0 x1=some r→XSpec Tryz.prog fk_cmp ((.agg (zl x0))::(.agg (zl x1))::fc_cmp) [] (I r) [] [])(hc_cmp:AV.closedL fc_cmp=true∧AV.onlyL [] fc_cmp=true){r:(List zb)}(h:ZP data a m b cmp=some r):XSpec Tryz.prog 259 [.sl 101 0 data.length,I a,I m,I b,.fn (.func fk_cmp) [] fc_cmp] [(101,.row 39 2 0 (F zl data))] (.tup []) [(101,.row 39 2 0 (F zl r))] []:=by
 unfold ZP at h;refine zc Tryz.hU Tryz.func259 (fun _ _ _ hB=> ?_);refine z.c6.b1.R.O.R.i.g ?_;refine zF (fun y1=>⟨[(0,.sl 101 0 y1.2.2.length),(2,I m),(4,.fn (.func fk_cmp) [] fc_cmp),(10,I y1.1),(11,I y1.2.1)],[(101,.row 39 2 0 (F zl y1.2.2))],[]⟩) (fun q6=>(.exit 0,⟨[(0,.sl 101 0 q6.2.length),(2,I m),(4,.fn (.func fk_cmp) [] fc_cmp),(10,I q6.1)],[(101,.row 39 2 0 (F zl q6.2))],[]⟩)) [(101,101)] hB h (fun y1 t h=> ?_) (fun q6 h=> ?_)
 ·unfold J4 at h;refine z.i0.g ?_;refine zn h (fun _ h=> ?_) (fun _ h=> ?_)
  ·refine z.q.i.l6.g ?_;refine zn h (fun _ h=> ?_) (fun _ h=> ?_)
   ·refine z.a.m3.R.a.i.g ?_;refine zg (hargs:=by (simp only [List.nil_append,List.append_nil,List.cons_append,AV.mapNL,AV.mapN,zx hc_cmp.1];rfl)) (hon:=by (simp only [List.nil_append,List.append_nil,List.cons_append,AV.onlyL,AV.only,zH hc_cmp.1];rfl)) [] [101] h (fun _=>ZO (fun h=>hf_cmp h) hc_cmp) (fun v2 _ h=> ?_);refine J9 h (fun ev3 h=> ?_);refine z.j1.R.y.e.g ?_;refine qj 0 v2.length ?_;exact zu [(101,101)] hB h
   refine z.m3.R.q2.m3.R.a.i.g ?_;refine zg (hargs:=by (simp only [List.nil_append,List.append_nil,List.cons_append,AV.mapNL,AV.mapN,zx hc_cmp.1];rfl)) (hon:=by (simp only [List.nil_append,List.append_nil,List.cons_append,AV.onlyL,AV.only,zH hc_cmp.1];rfl)) [] [101] h (fun _=>ZO (fun h=>hf_cmp h) hc_cmp) (fun v4 _ h=> ?_);refine J9 h (fun ev5 h=> ?_);refine z.j1.R.y.e.g ?_;refine qj 0 v4.length ?_;exact zu [(101,101)] hB h
  refine z.l.g ?_;exact zr [(101,101)] hB h
 refine z.a.m3.R.a.y.c2.g ?_;refine zg (hargs:=by (simp only [List.nil_append,List.append_nil,List.cons_append,AV.mapNL,AV.mapN,zx hc_cmp.1];rfl)) (hon:=by (simp only [List.nil_append,List.append_nil,List.cons_append,AV.onlyL,AV.only,zH hc_cmp.1];rfl)) [] [101] h (fun _=>ZO (fun h=>hf_cmp h) hc_cmp) (fun v7 _ h=> ?_);refine J9 h (fun ev8 h=> ?_);refine k_nil ?_;apply za [(101,101)] hB h
theorem slices_symMergeCmpFunc_Decl_F_ok {frec:((List zb)→Int→Int→Int→(zb→zb→Option Int)→Option (List zb))}(hrec: ∀ {data:(List zb)} {a:Int} {m:Int} {b:Int} {cmp:(zb→zb→Option Int)} {fk_cmp:Nat} {fc_cmp:List AV} (hf_cmp: ∀ {x0:zb} {x1:zb} {r:Int},cmp x0 x1=some r→XSpec Tryz.prog fk_cmp ((.agg (zl x0))::(.agg (zl x1))::fc_cmp) [] (I r) [] []) (hc_cmp:AV.closedL fc_cmp=true∧AV.onlyL [] fc_cmp=true) {r:(List zb)},frec data a m b cmp=some r→XSpec Tryz.prog 234 [.sl 101 0 data.length,I a,I m,I b,.fn (.func fk_cmp) [] fc_cmp] [(101,.row 39 2 0 (F zl data))] (.tup []) [(101,.row 39 2 0 (F zl r))] []){data:(List zb)}{a:Int}{m:Int}{b:Int}{cmp:(zb→zb→Option Int)}{fk_cmp:Nat}{fc_cmp:List AV}(hf_cmp: ∀ {x0:zb} {x1:zb} {r:Int},cmp x0 x1=some r→XSpec Tryz.prog fk_cmp ((.agg (zl x0))::(.agg (zl x1))::fc_cmp) [] (I r) [] [])(hc_cmp:AV.closedL fc_cmp=true∧AV.onlyL [] fc_cmp=true){r:(List zb)}(h:Z7 frec data a m b cmp=some r):XSpec Tryz.prog 234 [.sl 101 0 data.length,I a,I m,I b,.fn (.func fk_cmp) [] fc_cmp] [(101,.row 39 2 0 (F zl data))] (.tup []) [(101,.row 39 2 0 (F zl r))] []:=by
 unfold Z7 at h;refine zc Tryz.hU Tryz.func234 (fun _ _ _ hB=> ?_);refine z.q.R.m5.g ?_;refine zn h (fun _ h=> ?_) (fun _ h=> ?_)
 ·refine z.c6.b1.w.b.g ?_;refine zF (fun y1=>⟨[(0,.sl 101 0 data.length),(1,I a),(4,.fn (.func fk_cmp) [] fc_cmp),(10,I y1.1),(11,I y1.2)],[(101,.row 39 2 0 (F zl data))],[]⟩) (fun q5=>(.exit 0,⟨[(0,.sl 101 0 data.length),(1,I a),(10,I q5)],[(101,.row 39 2 0 (F zl data))],[]⟩)) [(101,101)] hB h (fun y1 t h=> ?_) (fun q5 h=> ?_)
  ·unfold Jz at h;refine z.i0.g ?_;refine zn h (fun _ h=> ?_) (fun _ h=> ?_)
   ·refine z.h9.c9.i.l6.g ?_;refine QV (r:=((v64 (w64 (y1.1+y1.2))).fdiv (2^1))) ?_;refine z.b1.h9.g ?_;refine qX [] (.q 0 (.q 1 (.q 2 (.q 3 (.q 4 (.q 5 (.q 6 (.q 7 (.q 8 (.e 9 (.q 10 .done))))))))))) hm ?_;refine z.e5.e9.g ?_;refine zU h (fun v2 ev2 h=> ?_);refine gq ?_;refine Jt ev2 ?_;refine z.e5.g ?_;refine zU h (fun v3 ev3 h=> ?_);refine gq ?_;refine Jt ev3 ?_;refine ge ?_;refine n_callF hc_cmp h (fun _=>hf_cmp) (fun v4 _ h=> ?_);refine z.f2.b3.d.g ?_;refine zn h (fun _ h=> ?_) (fun _ h=> ?_)
    ·refine z.h2.l9.m.g ?_;exact zu [(101,101)] hB h
    refine z.j1.m.g ?_;exact zu [(101,101)] hB h
   refine z.l.g ?_;exact zr [(101,101)] hB h
  refine z.h8.V.c2.g ?_;refine zF (fun y6=>⟨[(0,.sl 101 0 y6.2.length),(10,I q5),(13,I y6.1)],[(101,.row 39 2 0 (F zl y6.2))],[]⟩) (fun q13=>(.exit 2,⟨[],[(101,.row 39 2 0 (F zl q13))],[]⟩)) [(101,101)] hB h (fun y6 t h=> ?_) (fun q13 h=> ?_)
  ·unfold Jr at h;refine z.q.R.m5.g ?_;refine zn h (fun _ h=> ?_) (fun _ h=> ?_)
   ·refine z.W.g ?_;refine qX [15,17] (.q 0 (.q 1 (.q 5 (.q 6 (.q 7 (.q 8 (.q 9 (.q 10 (.q 11 (.q 12 (.q 13 (.q 14 (.s 2 (.s 3 (.alt 4 (.e 15 (.q 16 (.e 17 .done))) (.e 15 (.q 4 (.q 16 (.e 17 .done))))))))))))))))))) hm ?_;refine z.d.n0.e5.e9.e9.g ?_;refine zU h (fun v7 ev7 h=> ?_);refine gq ?_;refine Jt ev7 ?_;refine z.e5.g ?_;refine zU h (fun v8 ev8 h=> ?_);refine gq ?_;refine Jt ev8 ?_;refine gq ?_;refine zU h (fun v9 ev9 h=> ?_);refine z.j0.j0.g ?_;refine zQ ?_ ?_
    ·refine z.v.n0.o3.g ?_;refine Ju ev9 h (fun v10 ev10 h=> ?_);refine zaM 63 v10.length ?_;refine gq ?_;refine zU h (fun v11 ev11 h=> ?_);refine ge ?_;refine Ju ev11 h (fun v12 ev12 h=> ?_);refine z.k0.d9.g ?_;refine qj 0 v12.length ?_;exact zu [(101,101)] hB h
    refine ge ?_;refine Ju ev9 h (fun v10 ev10 h=> ?_);refine z.n0.d.g ?_;refine zaM 63 v10.length ?_;refine gq ?_;refine zU h (fun v11 ev11 h=> ?_);refine ge ?_;refine Ju ev11 h (fun v12 ev12 h=> ?_);refine z.k0.d9.g ?_;refine qj 0 v12.length ?_;exact zu [(101,101)] hB h
   refine z.l.g ?_;exact zr [(101,101)] hB h
  refine z.h4.h6.c2.g ?_;apply za [(101,101)] hB h
 refine z.q.R.i.e3.g ?_;refine zn h (fun _ h=> ?_) (fun _ h=> ?_)
 ·refine z.c6.b1.w.b.g ?_;refine zF (fun y14=>⟨[(0,.sl 101 0 data.length),(2,I m),(4,.fn (.func fk_cmp) [] fc_cmp),(14,I y14.1),(15,I y14.2)],[(101,.row 39 2 0 (F zl data))],[]⟩) (fun q18=>(.exit 4,⟨[(0,.sl 101 0 data.length),(2,I m),(14,I q18)],[(101,.row 39 2 0 (F zl data))],[]⟩)) [(101,101)] hB h (fun y14 t h=> ?_) (fun q18 h=> ?_)
  ·unfold Jw at h;refine z.i0.g ?_;refine zn h (fun _ h=> ?_) (fun _ h=> ?_)
   ·refine z.h9.c9.i.l6.g ?_;refine QV (r:=((v64 (w64 (y14.1+y14.2))).fdiv (2^1))) ?_;refine z.b1.h9.g ?_;refine qX [] (.q 0 (.q 1 (.q 2 (.q 3 (.q 4 (.q 5 (.q 6 (.q 7 (.q 8 (.e 9 (.q 10 (.q 11 .done)))))))))))) hm ?_;refine z.e5.e9.g ?_;refine zU h (fun v15 ev15 h=> ?_);refine gq ?_;refine Jt ev15 ?_;refine z.e5.g ?_;refine zU h (fun v16 ev16 h=> ?_);refine gq ?_;refine Jt ev16 ?_;refine ge ?_;refine n_callF hc_cmp h (fun _=>hf_cmp) (fun v17 _ h=> ?_);refine z.f2.r0.d.b3.d.g ?_;refine zn h (fun _ h=> ?_) (fun _ h=> ?_)
    ·refine z.h2.l9.m.g ?_;exact zu [(101,101)] hB h
    refine z.j1.m.g ?_;exact zu [(101,101)] hB h
   refine z.l.g ?_;exact zr [(101,101)] hB h
  refine z.h8.V.c2.g ?_;refine zF (fun y19=>⟨[(0,.sl 101 0 y19.2.length),(14,I q18),(17,I y19.1)],[(101,.row 39 2 0 (F zl y19.2))],[]⟩) (fun q26=>(.exit 6,⟨[],[(101,.row 39 2 0 (F zl q26))],[]⟩)) [(101,101)] hB h (fun y19 t h=> ?_) (fun q26 h=> ?_)
  ·unfold JE at h;refine z.i0.g ?_;refine zn h (fun _ h=> ?_) (fun _ h=> ?_)
   ·refine z.W.g ?_;refine qX [15,17] (.q 0 (.q 1 (.q 5 (.q 6 (.q 7 (.q 8 (.q 9 (.q 10 (.q 11 (.q 12 (.q 13 (.q 14 (.s 2 (.s 3 (.alt 4 (.e 15 (.q 16 (.e 17 .done))) (.e 15 (.q 4 (.q 16 (.e 17 .done))))))))))))))))))) hm ?_;refine z.d.n1.e5.e9.e9.g ?_;refine zU h (fun v20 ev20 h=> ?_);refine gq ?_;refine Jt ev20 ?_;refine z.e5.g ?_;refine zU h (fun v21 ev21 h=> ?_);refine gq ?_;refine Jt ev21 ?_;refine gq ?_;refine zU h (fun v22 ev22 h=> ?_);refine z.j0.j0.g ?_;refine zQ ?_ ?_
    ·refine z.v.n1.o3.g ?_;refine Ju ev22 h (fun v23 ev23 h=> ?_);refine zaM 115 v23.length ?_;refine gq ?_;refine zU h (fun v24 ev24 h=> ?_);refine ge ?_;refine Ju ev24 h (fun v25 ev25 h=> ?_);refine z.s.R.m9.d9.g ?_;refine qj 0 v25.length ?_;exact zu [(101,101)] hB h
    refine ge ?_;refine Ju ev22 h (fun v23 ev23 h=> ?_);refine z.n1.d.g ?_;refine zaM 115 v23.length ?_;refine gq ?_;refine zU h (fun v24 ev24 h=> ?_);refine ge ?_;refine Ju ev24 h (fun v25 ev25 h=> ?_);refine z.s.R.m9.d9.g ?_;refine qj 0 v25.length ?_;exact zu [(101,101)] hB h
   refine z.l.g ?_;exact zr [(101,101)] hB h
  refine z.h4.h6.c2.g ?_;apply za [(101,101)] hB h
 refine z.h9.c9.h5.g ?_;refine QV (r:=((v64 (w64 (a+b))).fdiv (2^1))) ?_;refine z.q.i.b1.a7.o.c9.O.h9.g ?_;refine zn h (fun _ h=> ?_) (fun _ h=> ?_)
 ·refine z.c6.b1.R.w.m.o.R.i.g ?_;refine zF (fun y27=>⟨[(0,.sl 101 0 data.length),(1,I a),(2,I m),(3,I b),(4,.fn (.func fk_cmp) [] fc_cmp),(18,I (w64 ((v64 (w64 (a+b))).fdiv (2^1)))),(19,I (w64 ((w64 ((v64 (w64 (a+b))).fdiv (2^1)))+m))),(20,I y27.1),(21,I y27.2),(22,I (w64 ((w64 ((w64 ((v64 (w64 (a+b))).fdiv (2^1)))+m))-1)))],[(101,.row 39 2 0 (F zl data))],[]⟩) (fun q31=>(.exit 8,⟨[(0,.sl 101 0 data.length),(1,I a),(2,I m),(3,I b),(4,.fn (.func fk_cmp) [] fc_cmp),(18,I q31.1),(19,I q31.2.1),(20,I q31.2.2)],[(101,.row 39 2 0 (F zl data))],[]⟩)) [(101,101)] hB h (fun y27 t h=> ?_) (fun q31 h=> ?_)
  ·unfold Jm at h;refine z.i0.g ?_;refine zn h (fun _ h=> ?_) (fun _ h=> ?_)
   ·refine z.h9.c9.i.l6.g ?_;refine QV (r:=((v64 (w64 (y27.1+y27.2))).fdiv (2^1))) ?_;refine z.b1.h9.g ?_;refine qX [] (.q 0 (.q 1 (.q 2 (.q 3 (.q 4 (.q 5 (.q 6 (.q 7 (.q 8 (.q 9 (.q 10 (.e 11 (.q 12 (.q 13 .done)))))))))))))) hm ?_;refine z.d.n1.e5.e9.e9.g ?_;refine zU h (fun v28 ev28 h=> ?_);refine gq ?_;refine Jt ev28 ?_;refine z.e5.g ?_;refine zU h (fun v29 ev29 h=> ?_);refine gq ?_;refine Jt ev29 ?_;refine ge ?_;refine n_callF hc_cmp h (fun _=>hf_cmp) (fun v30 _ h=> ?_);refine z.f2.r0.d.b3.d.g ?_;refine zn h (fun _ h=> ?_) (fun _ h=> ?_)
    ·refine z.h2.l9.m.g ?_;exact zu [(101,101)] hB h
    refine z.j1.m.g ?_;exact zu [(101,101)] hB h
   refine z.l.g ?_;exact zr [(101,101)] hB h
  refine z.f3.R.i.c2.g ?_;refine qQ (fun q32=>(.normal,⟨[(0,.sl 101 0 data.length),(1,I a),(2,I m),(3,I b),(4,.fn (.func fk_cmp) [] fc_cmp),(18,I q31.1),(20,I q31.2.2),(24,I (w64 (q31.2.1-q31.2.2))),(185,B q32)],[(101,.row 39 2 0 (F zl data))],[]⟩)) h (fun t h=> ?_) (fun q32 h=> ?_)
  ·refine z.F.y.g ?_;refine zd h (fun _ h=> ?_) (fun _ h=> ?_)
   ·refine z.P.r.x.g ?_;exact zq [(101,101)] hB h
   refine z.c8.k.g ?_;exact zq [(101,101)] hB h
  refine f_t ?_;refine zn h (fun _ h=> ?_) (fun _ h=> ?_)
  ·refine z.a.k1.g ?_;refine zg (hargs:=by (simp only [List.nil_append,List.append_nil,List.cons_append,AV.mapNL,AV.mapN,zx hc_cmp.1];rfl)) (hon:=by (simp only [List.nil_append,List.append_nil,List.cons_append,AV.onlyL,AV.only,zH hc_cmp.1];rfl)) [] [101] h (fun _=>J2 (fun h=>hf_cmp h) hc_cmp) (fun v33 _ h=> ?_);refine J9 h (fun ev41 h=> ?_);refine z.T.T.e.g ?_;refine qQ (fun q34=>(.normal,⟨[(0,.sl 101 0 v33.length),(1,I a),(3,I b),(4,.fn (.func fk_cmp) [] fc_cmp),(18,I q31.1),(20,I q31.2.2),(24,I (w64 (q31.2.1-q31.2.2))),(199,B q34)],[(101,.row 39 2 0 (F zl v33))],[]⟩)) h (fun t h=> ?_) (fun q34 h=> ?_)
   ·refine z.F.y.g ?_;refine zd h (fun _ h=> ?_) (fun _ h=> ?_)
    ·refine z.P.r.x.g ?_;refine qj 0 v33.length ?_;exact zq [(101,101)] hB h
    refine z.c8.k.g ?_;refine qj 0 v33.length ?_;exact zq [(101,101)] hB h
   refine f_t ?_;refine zn h (fun _ h=> ?_) (fun _ h=> ?_)
   ·refine z.a.k1.g ?_;refine zg (hargs:=by (simp only [List.nil_append,List.append_nil,List.cons_append,AV.mapNL,AV.mapN,zx hc_cmp.1];rfl)) (hon:=by (simp only [List.nil_append,List.append_nil,List.cons_append,AV.onlyL,AV.only,zH hc_cmp.1];rfl)) [] [101] h (fun _=>hrec (fun h=>hf_cmp h) hc_cmp) (fun v35 _ h=> ?_);refine J9 h (fun ev38 h=> ?_);refine z.F.i.e.g ?_;refine zd h (fun _ h=> ?_) (fun _ h=> ?_)
    ·refine z.i7.r.x.g ?_;refine zn h (fun _ h=> ?_) (fun _ h=> ?_)
     ·refine z.a.k1.g ?_;refine l_relen 214 v35.length ?_;refine zg (hargs:=by (simp only [List.nil_append,List.append_nil,List.cons_append,AV.mapNL,AV.mapN,zx hc_cmp.1];rfl)) (hon:=by (simp only [List.nil_append,List.append_nil,List.cons_append,AV.onlyL,AV.only,zH hc_cmp.1];rfl)) [] [101] h (fun _=>hrec (fun h=>hf_cmp h) hc_cmp) (fun v36 _ h=> ?_);refine J9 h (fun ev37 h=> ?_);refine k_nil ?_;apply za [(101,101)] hB h
     refine k_skip ?_;apply za [(101,101)] hB h
    refine z.Q.i1.k.g ?_;apply za [(101,101)] hB h
   refine z.F.h5.g ?_;refine zd h (fun _ h=> ?_) (fun _ h=> ?_)
   ·refine z.i7.r.x.g ?_;refine zn h (fun _ h=> ?_) (fun _ h=> ?_)
    ·refine z.a.k1.g ?_;refine zg (hargs:=by (simp only [List.nil_append,List.append_nil,List.cons_append,AV.mapNL,AV.mapN,zx hc_cmp.1];rfl)) (hon:=by (simp only [List.nil_append,List.append_nil,List.cons_append,AV.onlyL,AV.only,zH hc_cmp.1];rfl)) [] [101] h (fun _=>hrec (fun h=>hf_cmp h) hc_cmp) (fun v39 _ h=> ?_);refine J9 h (fun ev40 h=> ?_);refine k_nil ?_;apply za [(101,101)] hB h
    refine k_skip ?_;apply za [(101,101)] hB h
   refine z.Q.i1.k.g ?_;apply za [(101,101)] hB h
  refine z.T.e3.g ?_;refine qQ (fun q42=>(.normal,⟨[(0,.sl 101 0 data.length),(1,I a),(3,I b),(4,.fn (.func fk_cmp) [] fc_cmp),(18,I q31.1),(20,I q31.2.2),(24,I (w64 (q31.2.1-q31.2.2))),(199,B q42)],[(101,.row 39 2 0 (F zl data))],[]⟩)) h (fun t h=> ?_) (fun q42 h=> ?_)
  ·refine z.F.y.g ?_;refine zd h (fun _ h=> ?_) (fun _ h=> ?_)
   ·refine z.P.r.x.g ?_;exact zq [(101,101)] hB h
   refine z.c8.k.g ?_;exact zq [(101,101)] hB h
  refine f_t ?_;refine zn h (fun _ h=> ?_) (fun _ h=> ?_)
  ·refine z.a.k1.g ?_;refine zg (hargs:=by (simp only [List.nil_append,List.append_nil,List.cons_append,AV.mapNL,AV.mapN,zx hc_cmp.1];rfl)) (hon:=by (simp only [List.nil_append,List.append_nil,List.cons_append,AV.onlyL,AV.only,zH hc_cmp.1];rfl)) [] [101] h (fun _=>hrec (fun h=>hf_cmp h) hc_cmp) (fun v43 _ h=> ?_);refine J9 h (fun ev46 h=> ?_);refine z.F.i.e.g ?_;refine zd h (fun _ h=> ?_) (fun _ h=> ?_)
   ·refine z.i7.r.x.g ?_;refine zn h (fun _ h=> ?_) (fun _ h=> ?_)
    ·refine z.a.k1.g ?_;refine l_relen 214 v43.length ?_;refine zg (hargs:=by (simp only [List.nil_append,List.append_nil,List.cons_append,AV.mapNL,AV.mapN,zx hc_cmp.1];rfl)) (hon:=by (simp only [List.nil_append,List.append_nil,List.cons_append,AV.onlyL,AV.only,zH hc_cmp.1];rfl)) [] [101] h (fun _=>hrec (fun h=>hf_cmp h) hc_cmp) (fun v44 _ h=> ?_);refine J9 h (fun ev45 h=> ?_);refine k_nil ?_;apply za [(101,101)] hB h
    refine k_skip ?_;apply za [(101,101)] hB h
   refine z.Q.i1.k.g ?_;apply za [(101,101)] hB h
  refine z.F.h5.g ?_;refine zd h (fun _ h=> ?_) (fun _ h=> ?_)
  ·refine z.i7.r.x.g ?_;refine zn h (fun _ h=> ?_) (fun _ h=> ?_)
   ·refine z.a.k1.g ?_;refine zg (hargs:=by (simp only [List.nil_append,List.append_nil,List.cons_append,AV.mapNL,AV.mapN,zx hc_cmp.1];rfl)) (hon:=by (simp only [List.nil_append,List.append_nil,List.cons_append,AV.onlyL,AV.only,zH hc_cmp.1];rfl)) [] [101] h (fun _=>hrec (fun h=>hf_cmp h) hc_cmp) (fun v47 _ h=> ?_);refine J9 h (fun ev48 h=> ?_);refine k_nil ?_;apply za [(101,101)] hB h
   refine k_skip ?_;apply za [(101,101)] hB h
  refine z.Q.i1.k.g ?_;apply za [(101,101)] hB h
 refine z.c6.b1.R.w.m.o.b.g ?_;refine zF (fun y49=>⟨[(0,.sl 101 0 data.length),(1,I a),(2,I m),(3,I b),(4,.fn (.func fk_cmp) [] fc_cmp),(18,I (w64 ((v64 (w64 (a+b))).fdiv (2^1)))),(19,I (w64 ((w64 ((v64 (w64 (a+b))).fdiv (2^1)))+m))),(20,I y49.1),(21,I y49.2),(22,I (w64 ((w64 ((w64 ((v64 (w64 (a+b))).fdiv (2^1)))+m))-1)))],[(101,.row 39 2 0 (F zl data))],[]⟩) (fun q53=>(.exit 8,⟨[(0,.sl 101 0 data.length),(1,I a),(2,I m),(3,I b),(4,.fn (.func fk_cmp) [] fc_cmp),(18,I q53.1),(19,I q53.2.1),(20,I q53.2.2)],[(101,.row 39 2 0 (F zl data))],[]⟩)) [(101,101)] hB h (fun y49 t h=> ?_) (fun q53 h=> ?_)
 ·unfold Jo at h;refine z.i0.g ?_;refine zn h (fun _ h=> ?_) (fun _ h=> ?_)
  ·refine z.h9.c9.i.l6.g ?_;refine QV (r:=((v64 (w64 (y49.1+y49.2))).fdiv (2^1))) ?_;refine z.b1.h9.g ?_;refine qX [] (.q 0 (.q 1 (.q 2 (.q 3 (.q 4 (.q 5 (.q 6 (.q 7 (.q 8 (.q 9 (.q 10 (.e 11 (.q 12 (.q 13 .done)))))))))))))) hm ?_;refine z.d.n1.e5.e9.e9.g ?_;refine zU h (fun v50 ev50 h=> ?_);refine gq ?_;refine Jt ev50 ?_;refine z.e5.g ?_;refine zU h (fun v51 ev51 h=> ?_);refine gq ?_;refine Jt ev51 ?_;refine ge ?_;refine n_callF hc_cmp h (fun _=>hf_cmp) (fun v52 _ h=> ?_);refine z.f2.r0.d.b3.d.g ?_;refine zn h (fun _ h=> ?_) (fun _ h=> ?_)
   ·refine z.h2.l9.m.g ?_;exact zu [(101,101)] hB h
   refine z.j1.m.g ?_;exact zu [(101,101)] hB h
  refine z.l.g ?_;exact zr [(101,101)] hB h
 refine z.f3.R.i.c2.g ?_;refine qQ (fun q54=>(.normal,⟨[(0,.sl 101 0 data.length),(1,I a),(2,I m),(3,I b),(4,.fn (.func fk_cmp) [] fc_cmp),(18,I q53.1),(20,I q53.2.2),(24,I (w64 (q53.2.1-q53.2.2))),(185,B q54)],[(101,.row 39 2 0 (F zl data))],[]⟩)) h (fun t h=> ?_) (fun q54 h=> ?_)
 ·refine z.F.y.g ?_;refine zd h (fun _ h=> ?_) (fun _ h=> ?_)
  ·refine z.P.r.x.g ?_;exact zq [(101,101)] hB h
  refine z.c8.k.g ?_;exact zq [(101,101)] hB h
 refine f_t ?_;refine zn h (fun _ h=> ?_) (fun _ h=> ?_)
 ·refine z.a.k1.g ?_;refine zg (hargs:=by (simp only [List.nil_append,List.append_nil,List.cons_append,AV.mapNL,AV.mapN,zx hc_cmp.1];rfl)) (hon:=by (simp only [List.nil_append,List.append_nil,List.cons_append,AV.onlyL,AV.only,zH hc_cmp.1];rfl)) [] [101] h (fun _=>J2 (fun h=>hf_cmp h) hc_cmp) (fun v55 _ h=> ?_);refine J9 h (fun ev63 h=> ?_);refine z.T.T.e.g ?_;refine qQ (fun q56=>(.normal,⟨[(0,.sl 101 0 v55.length),(1,I a),(3,I b),(4,.fn (.func fk_cmp) [] fc_cmp),(18,I q53.1),(20,I q53.2.2),(24,I (w64 (q53.2.1-q53.2.2))),(199,B q56)],[(101,.row 39 2 0 (F zl v55))],[]⟩)) h (fun t h=> ?_) (fun q56 h=> ?_)
  ·refine z.F.y.g ?_;refine zd h (fun _ h=> ?_) (fun _ h=> ?_)
   ·refine z.P.r.x.g ?_;refine qj 0 v55.length ?_;exact zq [(101,101)] hB h
   refine z.c8.k.g ?_;refine qj 0 v55.length ?_;exact zq [(101,101)] hB h
  refine f_t ?_;refine zn h (fun _ h=> ?_) (fun _ h=> ?_)
  ·refine z.a.k1.g ?_;refine zg (hargs:=by (simp only [List.nil_append,List.append_nil,List.cons_append,AV.mapNL,AV.mapN,zx hc_cmp.1];rfl)) (hon:=by (simp only [List.nil_append,List.append_nil,List.cons_append,AV.onlyL,AV.only,zH hc_cmp.1];rfl)) [] [101] h (fun _=>hrec (fun h=>hf_cmp h) hc_cmp) (fun v57 _ h=> ?_);refine J9 h (fun ev60 h=> ?_);refine z.F.i.e.g ?_;refine zd h (fun _ h=> ?_) (fun _ h=> ?_)
   ·refine z.i7.r.x.g ?_;refine zn h (fun _ h=> ?_) (fun _ h=> ?_)
    ·refine z.a.k1.g ?_;refine l_relen 214 v57.length ?_;refine zg (hargs:=by (simp only [List.nil_append,List.append_nil,List.cons_append,AV.mapNL,AV.mapN,zx hc_cmp.1];rfl)) (hon:=by (simp only [List.nil_append,List.append_nil,List.cons_append,AV.onlyL,AV.only,zH hc_cmp.1];rfl)) [] [101] h (fun _=>hrec (fun h=>hf_cmp h) hc_cmp) (fun v58 _ h=> ?_);refine J9 h (fun ev59 h=> ?_);refine k_nil ?_;apply za [(101,101)] hB h
    refine k_skip ?_;apply za [(101,101)] hB h
   refine z.Q.i1.k.g ?_;apply za [(101,101)] hB h
  refine z.F.h5.g ?_;refine zd h (fun _ h=> ?_) (fun _ h=> ?_)
  ·refine z.i7.r.x.g ?_;refine zn h (fun _ h=> ?_) (fun _ h=> ?_)
   ·refine z.a.k1.g ?_;refine zg (hargs:=by (simp only [List.nil_append,List.append_nil,List.cons_append,AV.mapNL,AV.mapN,zx hc_cmp.1];rfl)) (hon:=by (simp only [List.nil_append,List.append_nil,List.cons_append,AV.onlyL,AV.only,zH hc_cmp.1];rfl)) [] [101] h (fun _=>hrec (fun h=>hf_cmp h) hc_cmp) (fun v61 _ h=> ?_);refine J9 h (fun ev62 h=> ?_);refine k_nil ?_;apply za [(101,101)] hB h
   refine k_skip ?_;apply za [(101,101)] hB h
  refine z.Q.i1.k.g ?_;apply za [(101,101)] hB h
 refine z.T.e3.g ?_;refine qQ (fun q64=>(.normal,⟨[(0,.sl 101 0 data.length),(1,I a),(3,I b),(4,.fn (.func fk_cmp) [] fc_cmp),(18,I q53.1),(20,I q53.2.2),(24,I (w64 (q53.2.1-q53.2.2))),(199,B q64)],[(101,.row 39 2 0 (F zl data))],[]⟩)) h (fun t h=> ?_) (fun q64 h=> ?_)
 ·refine z.F.y.g ?_;refine zd h (fun _ h=> ?_) (fun _ h=> ?_)
  ·refine z.P.r.x.g ?_;exact zq [(101,101)] hB h
  refine z.c8.k.g ?_;exact zq [(101,101)] hB h
 refine f_t ?_;refine zn h (fun _ h=> ?_) (fun _ h=> ?_)
 ·refine z.a.k1.g ?_;refine zg (hargs:=by (simp only [List.nil_append,List.append_nil,List.cons_append,AV.mapNL,AV.mapN,zx hc_cmp.1];rfl)) (hon:=by (simp only [List.nil_append,List.append_nil,List.cons_append,AV.onlyL,AV.only,zH hc_cmp.1];rfl)) [] [101] h (fun _=>hrec (fun h=>hf_cmp h) hc_cmp) (fun v65 _ h=> ?_);refine J9 h (fun ev68 h=> ?_);refine z.F.i.e.g ?_;refine zd h (fun _ h=> ?_) (fun _ h=> ?_)
  ·refine z.i7.r.x.g ?_;refine zn h (fun _ h=> ?_) (fun _ h=> ?_)
   ·refine z.a.k1.g ?_;refine l_relen 214 v65.length ?_;refine zg (hargs:=by (simp only [List.nil_append,List.append_nil,List.cons_append,AV.mapNL,AV.mapN,zx hc_cmp.1];rfl)) (hon:=by (simp only [List.nil_append,List.append_nil,List.cons_append,AV.onlyL,AV.only,zH hc_cmp.1];rfl)) [] [101] h (fun _=>hrec (fun h=>hf_cmp h) hc_cmp) (fun v66 _ h=> ?_);refine J9 h (fun ev67 h=> ?_);refine k_nil ?_;apply za [(101,101)] hB h
   refine k_skip ?_;apply za [(101,101)] hB h
  refine z.Q.i1.k.g ?_;apply za [(101,101)] hB h
 refine z.F.h5.g ?_;refine zd h (fun _ h=> ?_) (fun _ h=> ?_)
 ·refine z.i7.r.x.g ?_;refine zn h (fun _ h=> ?_) (fun _ h=> ?_)
  ·refine z.a.k1.g ?_;refine zg (hargs:=by (simp only [List.nil_append,List.append_nil,List.cons_append,AV.mapNL,AV.mapN,zx hc_cmp.1];rfl)) (hon:=by (simp only [List.nil_append,List.append_nil,List.cons_append,AV.onlyL,AV.only,zH hc_cmp.1];rfl)) [] [101] h (fun _=>hrec (fun h=>hf_cmp h) hc_cmp) (fun v69 _ h=> ?_);refine J9 h (fun ev70 h=> ?_);refine k_nil ?_;apply za [(101,101)] hB h
  refine k_skip ?_;apply za [(101,101)] hB h
 refine z.Q.i1.k.g ?_;apply za [(101,101)] hB h
theorem slices_symMergeCmpFunc_Decl_n_ok: ∀ (fuel:Nat) {data:(List zb)} {a:Int} {m:Int} {b:Int} {cmp:(zb→zb→Option Int)} {fk_cmp:Nat} {fc_cmp:List AV} (hf_cmp: ∀ {x0:zb} {x1:zb} {r:Int},cmp x0 x1=some r→XSpec Tryz.prog fk_cmp ((.agg (zl x0))::(.agg (zl x1))::fc_cmp) [] (I r) [] []) (hc_cmp:AV.closedL fc_cmp=true∧AV.onlyL [] fc_cmp=true) {r:(List zb)} (h:Zd fuel data a m b cmp=some r),XSpec Tryz.prog 234 [.sl 101 0 data.length,I a,I m,I b,.fn (.func fk_cmp) [] fc_cmp] [(101,.row 39 2 0 (F zl data))] (.tup []) [(101,.row 39 2 0 (F zl r))] []:=by
 intro fuel
 induction fuel with
 |zero=>intro data a m b cmp fk_cmp fc_cmp hf_cmp hc_cmp r h;cases h
 |succ fuel ih=>
  intro data a m b cmp fk_cmp fc_cmp hf_cmp hc_cmp r h
  refine slices_symMergeCmpFunc_Decl_F_ok (frec:=Zd fuel) ?_ (fun h=>hf_cmp h) hc_cmp h;exact @ih
theorem JF {data:(List zb)}{a:Int}{m:Int}{b:Int}{cmp:(zb→zb→Option Int)}{fk_cmp:Nat}{fc_cmp:List AV}(hf_cmp: ∀ {x0:zb} {x1:zb} {r:Int},cmp x0 x1=some r→XSpec Tryz.prog fk_cmp ((.agg (zl x0))::(.agg (zl x1))::fc_cmp) [] (I r) [] [])(hc_cmp:AV.closedL fc_cmp=true∧AV.onlyL [] fc_cmp=true){r:(List zb)}(h:ZB data a m b cmp=some r):XSpec Tryz.prog 234 [.sl 101 0 data.length,I a,I m,I b,.fn (.func fk_cmp) [] fc_cmp] [(101,.row 39 2 0 (F zl data))] (.tup []) [(101,.row 39 2 0 (F zl r))] []:=by
 obtain ⟨fuel,h⟩:=lim_some h;exact slices_symMergeCmpFunc_Decl_n_ok fuel (fun h=>hf_cmp h) hc_cmp h
theorem slices_stableCmpFunc_Decl_ok {data:(List zb)}{n:Int}{cmp:(zb→zb→Option Int)}{fk_cmp:Nat}{fc_cmp:List AV}(hf_cmp: ∀ {x0:zb} {x1:zb} {r:Int},cmp x0 x1=some r→XSpec Tryz.prog fk_cmp ((.agg (zl x0))::(.agg (zl x1))::fc_cmp) [] (I r) [] [])(hc_cmp:AV.closedL fc_cmp=true∧AV.onlyL [] fc_cmp=true){r:(List zb)}(h:qW data n cmp=some r):XSpec Tryz.prog 191 [.sl 101 0 data.length,I n,.fn (.func fk_cmp) [] fc_cmp] [(101,.row 39 2 0 (F zl data))] (.tup []) [(101,.row 39 2 0 (F zl r))] []:=by
 unfold qW at h;refine zc Tryz.hU Tryz.func191 (fun _ _ _ hB=> ?_);refine z.c6.b1.D.a1.g ?_;refine zF (fun y1=>⟨[(0,.sl 101 0 y1.2.2.length),(1,I n),(2,.fn (.func fk_cmp) [] fc_cmp),(6,I 20),(7,I y1.1),(8,I y1.2.1)],[(101,.row 39 2 0 (F zl y1.2.2))],[]⟩) (fun q4=>(.exit 0,⟨[(0,.sl 101 0 q4.2.length),(1,I n),(2,.fn (.func fk_cmp) [] fc_cmp),(6,I 20),(7,I q4.1)],[(101,.row 39 2 0 (F zl q4.2))],[]⟩)) [(101,101)] hB h (fun y1 t h=> ?_) (fun q4 h=> ?_)
 ·unfold Zl at h;refine z.i0.g ?_;refine zn h (fun _ h=> ?_) (fun _ h=> ?_)
  ·refine z.m3.i.l6.g ?_;refine zg (hargs:=by (simp only [List.nil_append,List.append_nil,List.cons_append,AV.mapNL,AV.mapN,zx hc_cmp.1];rfl)) (hon:=by (simp only [List.nil_append,List.append_nil,List.cons_append,AV.onlyL,AV.only,zH hc_cmp.1];rfl)) [] [101] h (fun _=>QA (fun h=>hf_cmp h) hc_cmp) (fun v2 _ h=> ?_);refine J9 h (fun ev3 h=> ?_);refine z.h2.l9.y.o.c1.g ?_;refine qj 0 v2.length ?_;exact zu [(101,101)] hB h
  refine z.l.g ?_;exact zr [(101,101)] hB h
 refine z.m3.i.c2.g ?_;refine zg (hargs:=by (simp only [List.nil_append,List.append_nil,List.cons_append,AV.mapNL,AV.mapN,zx hc_cmp.1];rfl)) (hon:=by (simp only [List.nil_append,List.append_nil,List.cons_append,AV.onlyL,AV.only,zH hc_cmp.1];rfl)) [] [101] h (fun _=>QA (fun h=>hf_cmp h) hc_cmp) (fun v5 _ h=> ?_);refine J9 h (fun ev14 h=> ?_);refine z.m4.g ?_;refine k_relen 0 v5.length ?_;refine zF (fun y6=>⟨[(0,.sl 101 0 y6.2.length),(1,I n),(2,.fn (.func fk_cmp) [] fc_cmp),(6,I y6.1)],[(101,.row 39 2 0 (F zl y6.2))],[]⟩) (fun q13=>(.exit 2,⟨[],[(101,.row 39 2 0 (F zl q13))],[]⟩)) [(101,101)] hB h (fun y6 t h=> ?_) (fun q13 h=> ?_)
 ·unfold Zm at h;refine z.i0.g ?_;refine zn h (fun _ h=> ?_) (fun _ h=> ?_)
  ·refine z.c6.b1.D.n4.b.l6.g ?_;refine zF (fun y7=>⟨[(0,.sl 101 0 y7.2.2.length),(1,I n),(2,.fn (.func fk_cmp) [] fc_cmp),(6,I y6.1),(7,I y7.1),(8,I y7.2.1)],[(101,.row 39 2 0 (F zl y7.2.2))],[]⟩) (fun q10=>(.exit 4,⟨[(0,.sl 101 0 q10.2.length),(1,I n),(2,.fn (.func fk_cmp) [] fc_cmp),(6,I y6.1),(7,I q10.1)],[(101,.row 39 2 0 (F zl q10.2))],[]⟩)) [(101,101)] hB h (fun y7 t h=> ?_) (fun q10 h=> ?_)
   ·unfold Zo at h;refine z.i0.g ?_;refine zn h (fun _ h=> ?_) (fun _ h=> ?_)
    ·refine z.a.q2.m3.i.l6.g ?_;refine zg (hargs:=by (simp only [List.nil_append,List.append_nil,List.cons_append,AV.mapNL,AV.mapN,zx hc_cmp.1];rfl)) (hon:=by (simp only [List.nil_append,List.append_nil,List.cons_append,AV.onlyL,AV.only,zH hc_cmp.1];rfl)) [] [101] h (fun _=>JF (fun h=>hf_cmp h) hc_cmp) (fun v8 _ h=> ?_);refine J9 h (fun ev9 h=> ?_);refine z.h2.l9.n4.y.o.c1.g ?_;refine qj 0 v8.length ?_;exact zu [(101,101)] hB h
    refine z.l.g ?_;exact zr [(101,101)] hB h
   refine z.q.O.c9.m5.c2.g ?_;refine zn h (fun _ h=> ?_) (fun _ h=> ?_)
   ·refine z.a.k1.g ?_;refine zg (hargs:=by (simp only [List.nil_append,List.append_nil,List.cons_append,AV.mapNL,AV.mapN,zx hc_cmp.1];rfl)) (hon:=by (simp only [List.nil_append,List.append_nil,List.cons_append,AV.onlyL,AV.only,zH hc_cmp.1];rfl)) [] [101] h (fun _=>JF (fun h=>hf_cmp h) hc_cmp) (fun v11 _ h=> ?_);refine J9 h (fun ev12 h=> ?_);refine z.j1.n4.m.e.g ?_;refine qj 0 v11.length ?_;exact zu [(101,101)] hB h
   refine z.j1.n4.m.M.g ?_;exact zu [(101,101)] hB h
  refine z.l.g ?_;exact zr [(101,101)] hB h
 refine f_be ?_;apply za [(101,101)] hB h
theorem slices_SortStableFunc_Decl_ok {x:(List zb)}{cmp:(zb→zb→Option Int)}{fk_cmp:Nat}{fc_cmp:List AV}(hf_cmp: ∀ {x0:zb} {x1:zb} {r:Int},cmp x0 x1=some r→XSpec Tryz.prog fk_cmp ((.agg (zl x0))::(.agg (zl x1))::fc_cmp) [] (I r) [] [])(hc_cmp:AV.closedL fc_cmp=true∧AV.onlyL [] fc_cmp=true){r:(List zb)}(h:qP x cmp=some r):XSpec Tryz.prog 134 [.sl 101 0 x.length,.fn (.func fk_cmp) [] fc_cmp] [(101,.row 39 2 0 (F zl x))] (.tup []) [(101,.row 39 2 0 (F zl r))] []:=by
 unfold qP at h;refine zc Tryz.hU Tryz.func134 (fun _ _ _ hB=> ?_);refine z.a.I.y.g ?_;refine zg (hargs:=by (simp only [List.nil_append,List.append_nil,List.cons_append,AV.mapNL,AV.mapN,zx hc_cmp.1];rfl)) (hon:=by (simp only [List.nil_append,List.append_nil,List.cons_append,AV.onlyL,AV.only,zH hc_cmp.1];rfl)) [] [101] h (fun _=>slices_stableCmpFunc_Decl_ok (fun h=>hf_cmp h) hc_cmp) (fun v1 _ h=> ?_);refine J9 h (fun ev2 h=> ?_);refine k_nil ?_;apply za [(101,101)] hB h
theorem cmp_isNaN_string_ok {x:Str}{r:Bool}(h:zaB x=some r):XSpec Tryz.prog 192 [S x] [] (B r) [] []:=by
 unfold zaB at h;refine zc Tryz.hU Tryz.func192 (fun _ _ _ hB=> ?_);refine z.h.j5.k6.g ?_;apply za [] hB h
theorem cmp_Compare_string_ok {x:Str}{y_:Str}{r:Int}(h:ZW x y_=some r):XSpec Tryz.prog 137 [S x,S y_] [] (I r) [] []:=by
 unfold ZW at h;refine zc Tryz.hU Tryz.func137 (fun _ _ _ hB=> ?_);refine z.a1.g ?_;refine zo h (fun _=>cmp_isNaN_string_ok) (fun v1 _ h=> ?_);refine z.w.g ?_;refine zo h (fun _=>cmp_isNaN_string_ok) (fun v2 _ h=> ?_);refine z.e.J.g ?_;refine zn h (fun _ h=> ?_) (fun _ h=> ?_)
 ·refine z.e.V.g ?_;refine zn h (fun _ h=> ?_) (fun _ h=> ?_)
  ·refine z.h4.S.g ?_;apply za [] hB h
  refine z.S.M.g ?_;apply za [] hB h
 refine z.e.b.e3.g ?_;refine zn h (fun _ h=> ?_) (fun _ h=> ?_)
 ·refine z.S.g ?_;apply za [] hB h
 refine z.e.t5.i.e3.g ?_;refine zn h (fun _ h=> ?_) (fun _ h=> ?_)
 ·refine z.S.g ?_;apply za [] hB h
 refine z.e.t6.i.e3.g ?_;refine zn h (fun _ h=> ?_) (fun _ h=> ?_)
 ·refine z.S.g ?_;apply za [] hB h
 refine z.e1.M.g ?_;apply za [] hB h
theorem cmp_Or_int_ok {vals:(List Int)}{r:Int}(h:cmp_Or_int vals=some r):XSpec Tryz.prog 136 [.vs vals.length (F cI vals)] [] (I r) [] []:=by
 unfold cmp_Or_int at h;refine zc Tryz.hU Tryz.func136 (fun _ _ _ hB=> ?_);refine z.d3.d6.o.c.g ?_;refine zF (fun y1=>⟨[(3,I 0),(6,.vs vals.length (F cI vals)),(7,I (vals.length:Int)),(8,I y1)],[],[]⟩) (Sum.elim (fun q3=>(.ret,⟨[(2,I q3)],[],[]⟩)) (fun q4=>(.exit 0,⟨[(3,I 0)],[],[]⟩))) [] hB h (fun y1 t h=> ?_) (fun q h=> ?_)
 ·unfold cmp_Or_int_b1 at h;refine z.a8.g ?_;refine zn h (fun _ h=> ?_) (fun _ h=> ?_)
  ·refine z.c.W.g ?_;refine Qh h (fun v2 _ h=> ?_);refine z.q.O.h7.g ?_;refine zn h (fun _ h=> ?_) (fun _ h=> ?_)
   ·refine z.E.b.g ?_;exact zr [] hB h
   refine z.d8.g ?_;exact zu [] hB h
  refine z.l.g ?_;exact zr [] hB h
 rcases q with q3|q4
 ·dsimp only [Sum.elim] at h ⊢
  refine z.B.g ?_;apply za [] hB h
 dsimp only [Sum.elim] at h ⊢
 refine z.h.k7.g ?_;apply za [] hB h
theorem space_Sorted_c1_ok {a:zb}{b:zb}{r:Int}(h:J1 a b=some r):XSpec Tryz.prog 135 [.agg (zl a),.agg (zl b)] [] (I r) [] []:=by
 unfold J1 at h;refine zc Tryz.hU Tryz.func135 (fun _ _ _ hB=> ?_);refine z.b1.p1.l2.g ?_;refine qX [] (.q 0 (.q 1 (.q 2 (.q 3 (.q 5 (.q 6 (.q 7 (.q 8 (.e 4 (.e 9 (.e 10 (.e 11 (.q 12 .done))))))))))))) hm ?_;refine z.v.m6.m6.m6.m6.g ?_;refine n_call h (fun _=>cmp_Compare_string_ok) (fun v1 _ h=> ?_);refine ge ?_;refine n_call h (fun _=>cmp_Compare_string_ok) (fun v2 _ h=> ?_);refine ge ?_;refine n_lit (e:=cI) [v1,v2] ?_;refine ge ?_;refine n_callB h (fun _=>cmp_Or_int_ok) (fun v3 _ h=> ?_);refine z.h6.f2.k5.g ?_;apply za [] hB h
theorem space_Sorted_ok {l:(List zb)}{r:(List zb)}(h:space_Sorted l=some r):XSpec Tryz.prog 75 [.vs l.length (F zl l)] [] (.sl 1 0 r.length) [(1,.row 39 2 0 (F zl r))] []:=by
 unfold space_Sorted at h;refine zc Tryz.hU Tryz.func75 (fun _ _ _ hB=> ?_);refine z.a1.g ?_;refine zg [(1,100501)] [] h (fun _=>slices_Clone_Decl_ok) (fun v1 _ h=> ?_);refine z.w.g ?_;refine zg [(101,100501)] [100501] h (fun _=>slices_SortStableFunc_Decl_ok (fun h=>space_Sorted_c1_ok h) ⟨rfl,rfl⟩) (fun v2 _ h=> ?_);refine J9 h (fun ev3 h=> ?_);refine z.h.c1.g ?_;refine qj 2 v2.length ?_;apply za [(100501,1)] hB h
theorem space_Scope_ok {d:(Option qg)}{n:Int}{r:(List zb)}(h:zaW d n=some r):XSpec Tryz.prog 25 [oP Zs d,I n] [] (.sl 1 0 r.length) [(1,.row 39 2 0 (F zl r))] []:=by
 unfold zaW at h;refine zc Tryz.hU Tryz.func25 (fun _ _ _ hB=> ?_);refine z.i.k4.g ?_;refine zo h (fun _=>J7) (fun v1 _ h=> ?_);refine z.q.q3.g ?_;refine zn h (fun _ h=> ?_) (fun _ h=> ?_)
 ·refine z.S.g ?_;refine Jv (te:=39) (t:=4) 3004 2 ?_;apply za [(3004,1)] hB h
 refine z.t7.c.M.g ?_;refine l_mput keyS (ev:=(fun v=>B v)) (m:=[]) (k:=[120,109,108]) true ?_;refine z.f1.c.o.a.g ?_;refine Z6 (e:=zl) [(zb.mk [120,109,108] [104,116,116,112,58,47,47,119,119,119,46,119,51,46,111,114,103,47,88,77,76,47,49,57,57,56,47,110,97,109,101,115,112,97,99,101])] ?_;refine z.i.b1.g ?_;refine zg [(1,102201)] [] h (fun _=>doc_Doc_Up_ok) (fun v2 _ h=> ?_);refine l_move ?_;refine Z6 (e:=cI) [n] ?_;refine zg [(101,102201),(103,1024)] [102201,1024] h (fun _=>slices_Insert_int_ok) (fun v3 _ h=> ?_);refine l_to [(1016,1016),(1019,1019),(102201,102201)] ⟨[(0,oP Zs d),(5,.mp 1016),(6,.sl 1019 0 ([(zb.mk [120,109,108] [104,116,116,112,58,47,47,119,119,119,46,119,51,46,111,114,103,47,88,77,76,47,49,57,57,56,47,110,97,109,101,115,112,97,99,101])].length)),(25,.sl 102201 0 v3.length)],[(1016,.map (MP kS (fun v=>B v) (mput [] [120,109,108] true))),(1019,.row 39 2 0 (F zl [(zb.mk [120,109,108] [104,116,116,112,58,47,47,119,119,119,46,119,51,46,111,114,103,47,88,77,76,47,49,57,57,56,47,110,97,109,101,115,112,97,99,101])])),(102201,.row 3 1 0 (F cI v3))],[1024,102201]⟩ hB ?_;refine z.d3.g ?_;refine zF (fun y4=>⟨[(0,oP Zs d),(5,.mp 1016),(6,.sl 1019 0 y4.2.2.length),(25,.sl 102201 0 v3.length),(26,I (v3.length:Int)),(27,I y4.1)],[(1016,.map (MP kS (fun v=>B v) y4.2.1)),(1019,.row 39 2 0 (F zl y4.2.2)),(102201,.row 3 1 0 (F cI v3))],[1024,102201]⟩) (fun q11=>(.exit 0,⟨[(6,.sl 1019 0 q11.length)],[(1019,.row 39 2 0 (F zl q11))],[1024,102201]⟩)) [(1016,1016),(1019,1019),(102201,102201)] hB h (fun y4 t h=> ?_) (fun q11 h=> ?_)
 ·unfold space_Scope_b1 at h;refine z.a8.g ?_;refine zn h (fun _ h=> ?_) (fun _ h=> ?_)
  ·refine z.c.W.g ?_;refine QT h (fun v5 ev5 h=> ?_);refine Q7 ev5 ?_;refine z.O.g ?_;refine zo h (fun _=>J7) (fun v6 _ h=> ?_);refine z.d3.q3.g ?_;refine zF (fun y7=>⟨[(0,oP Zs d),(5,.mp 1016),(6,.sl 1019 0 y7.2.2.length),(25,.sl 102201 0 v3.length),(26,I (v3.length:Int)),(27,I y4.1),(34,.vs v6.Decls.length (F zl v6.Decls)),(35,I (v6.Decls.length:Int)),(36,I y7.1)],[(1016,.map (MP kS (fun v=>B v) y7.2.1)),(1019,.row 39 2 0 (F zl y7.2.2)),(102201,.row 3 1 0 (F cI v3))],[1024,102201]⟩) (fun q10=>(.exit 2,⟨[(0,oP Zs d),(5,.mp 1016),(6,.sl 1019 0 q10.2.length),(25,.sl 102201 0 v3.length),(26,I (v3.length:Int)),(27,I y4.1)],[(1016,.map (MP kS (fun v=>B v) q10.1)),(1019,.row 39 2 0 (F zl q10.2)),(102201,.row 3 1 0 (F cI v3))],[1024,102201]⟩)) [(1016,1016),(1019,1019),(102201,102201)] hB h (fun y7 t h=> ?_) (fun q10 h=> ?_)
   ·unfold space_Scope_b2 at h;refine z.a8.g ?_;refine zn h (fun _ h=> ?_) (fun _ h=> ?_)
    ·refine z.c.W.g ?_;refine Qh h (fun v8 _ h=> ?_);refine z.G.V.e7.d1.a6.g ?_;refine l_mget1 keyS (ev:=(fun v=>B v)) (m:=y7.2.1) (k:=v8.Prefix) false ?_;refine z.f8.g ?_;refine zd h (fun _ h=> ?_) (fun _ h=> ?_)
     ·refine z.i7.j5.H.g ?_;refine zn h (fun _ h=> ?_) (fun _ h=> ?_)
      ·refine z.a6.m.g ?_;refine Z6 (e:=zl) [v8] ?_;refine Jp h (fun v9 _ h=> ?_);refine z.G.m.o.g ?_;refine l_mupd keyS (ev:=(fun v=>B v)) (m:=y7.2.1) (k:=v8.Prefix) true ?_;refine z.e4.d5.g ?_;exact zu [(1016,1016),(1019,1019),(102201,102201)] hB h
      refine z.G.m.M.g ?_;refine l_mupd keyS (ev:=(fun v=>B v)) (m:=y7.2.1) (k:=v8.Prefix) true ?_;refine z.e4.d5.g ?_;exact zu [(1016,1016),(1019,1019),(102201,102201)] hB h
     refine z.G.m.M.i1.k.g ?_;refine l_mupd keyS (ev:=(fun v=>B v)) (m:=y7.2.1) (k:=v8.Prefix) true ?_;refine z.e4.d5.g ?_;exact zu [(1016,1016),(1019,1019),(102201,102201)] hB h
    refine z.l.g ?_;exact zr [(1016,1016),(1019,1019),(102201,102201)] hB h
   refine z.e4.n9.g ?_;exact zu [(1016,1016),(1019,1019),(102201,102201)] hB h
  refine z.l.g ?_;exact zr [(1019,1019)] hB h
 refine z.k7.g ?_;refine l_frz 1019 ?_;refine zg [(1,106001)] [] h (fun _=>space_Sorted_ok) (fun v12 _ h=> ?_);refine z.h.g ?_;apply za [(106001,1)] hB h
end Go.Proofs.YtojbjdcflgeibaaGreatDoor
