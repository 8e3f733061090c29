/-
  WALKS, printed by aw.py: that the program's functions compute the plain ones. Conditions: none.
-/
import Derived.Test.YtojbjdcflgeibaaGreatDoorQWalk7
set_option linter.unusedVariables false
set_option linter.unusedSimpArgs false
set_option maxRecDepth 20000
set_option maxHeartbeats 4000000
namespace Go.Proofs.YtojbjdcflgeibaaGreatDoor
open Go Go.Abs W G
theorem doc_Doc_Top_ok {d:(Option ZW)}{r:Int}(h:doc_Doc_Top d=some r):XSpec Tryz.prog 26 [oP Jg d] [] (I r) [] []:=by
  unfold doc_Doc_Top at h;refine zh Tryz.hU Tryz.func26 (fun _ _ _ hB=> ?_);refine z.e.p6.f1.g ?_;refine zn h (fun _ h=> ?_) (fun _ h=> ?_)
  · refine z.b4.g ?_;apply zb [] hB h
  refine z.C.g ?_;refine l_deref h (fun v1 _ h=> ?_);refine z.k.a0.g ?_;apply zb [] hB h
theorem apostillelaw09_SpaceBelow_ok {b:(List UInt8)}{n:Int}{r:Bool}(h:ZK b n=some r):XSpec Tryz.prog 5 [.vs b.length (F cU b),I n] [] (B r) [] []:=by
  unfold ZK at h;refine zh Tryz.hU Tryz.func5 (fun _ _ _ hB=> ?_);refine z.e8.b.g ?_;refine Zq (fun q2=>(.normal,⟨[(0,.vs b.length (F cU b)),(1,I n),(20,B q2)],[],[]⟩)) h (fun t h=> ?_) (fun q2 h=> ?_)
  · refine k_reg ?_;refine zo h (fun _=>zap) (fun v1 _ h=> ?_);refine z.f7.g ?_;refine zc h (fun _ h=> ?_) (fun _ h=> ?_)
    · refine z.S.i.g ?_;exact zp [] hB h
    refine z.c3.c7.O.f.g ?_;exact zp [] hB h
  refine f_t ?_;refine zn h (fun _ h=> ?_) (fun _ h=> ?_)
  · refine z.b.g ?_;refine zo h (fun _=>zap) (fun v3 _ h=> ?_);refine z.i3.k.g ?_;apply zb [] hB h
  refine z.C.g ?_;refine zo h (fun _=>parse_Parse_ok) (fun v4 _ h=> ?_);refine z.e8.b6.g ?_;refine Zq (fun q7=>(.normal,⟨[(1,I n),(5,oP Jg v4.1),(6,I v4.2),(41,B q7)],[],[]⟩)) h (fun t h=> ?_) (fun q7 h=> ?_)
  · refine z.u.j.g ?_;refine zc h (fun _ h=> ?_) (fun _ h=> ?_)
    · refine z.S.c2.d8.g ?_;exact zp [] hB h
    refine z.f.s.g ?_;refine zo h (fun _=>doc_Doc_Top_ok) (fun v5 _ h=> ?_);refine z.r.c7.g ?_;refine zc h (fun _ h=> ?_) (fun _ h=> ?_)
    · refine z.S.c2.n.g ?_;exact zp [] hB h
    refine z.f.s.g ?_;refine zo h (fun _=>zaa) (fun v6 _ h=> ?_);refine l_to [] ⟨[(1,I n),(5,oP Jg v4.1),(6,I v4.2),(35,B false),(38,.agg (zl v6))],[],[]⟩ hB ?_;refine z.c3.c7.p9.a4.g ?_;exact zp [] hB h
  refine f_t ?_;refine zn h (fun _ h=> ?_) (fun _ h=> ?_)
  · refine k_seq ?_;refine Zq (fun q8=>(.normal,⟨[(4,B q8)],[],[]⟩)) h (fun t h=> ?_) (fun q8 h=> ?_)
    · refine z.u.j.g ?_;refine zc h (fun _ h=> ?_) (fun _ h=> ?_)
      · refine z.G.h2.o.g ?_;exact zp [] hB h
      refine z.G.h3.p6.f.g ?_;exact zp [] hB h
    refine z.i3.k8.d3.g ?_;apply zb [] hB h
  refine z.f5.g ?_;refine zo h (fun _=>zaa) (fun v9 _ h=> ?_);refine z.a0.a.d4.e0.g ?_;refine zi [(1,105401)] [] h (fun _=>space_Scope_ok) (fun v10 _ h=> ?_);refine z.e2.P.g ?_;refine zL (fun y11=>⟨[(1,I n),(5,oP Jg v4.1),(7,.ptr 1007 0),(8,.sl 105401 0 v10.length),(56,I (v10.length:Int)),(57,I y11)],[(1007,.box 48 [I v9.Kind,I v9.Parent,S v9.Prefix,S v9.Local,S v9.URI,S v9.Text,.vs v9.Decls.length (F zk v9.Decls),.vs v9.Attrs.length (F qr v9.Attrs)]),(105401,.row 39 2 0 (F zk v10))],[]⟩) (Sum.elim (fun q19=>(.ret,⟨[(4,B false)],[],[]⟩)) (fun q20=>(.exit 0,⟨[],[],[]⟩))) [(1007,1007),(105401,105401)] hB h (fun y11 t h=> ?_) (fun q h=> ?_)
  · unfold qb at h;refine z.b9.g ?_;refine zn h (fun _ h=> ?_) (fun _ h=> ?_)
    · refine z.e2.f9.J.b.l.a.E.g ?_;refine zL (fun y12=>⟨[(1,I n),(5,oP Jg v4.1),(7,.ptr 1007 0),(8,.sl 105401 0 v10.length),(9,I y11),(10,B y12.1),(56,I (v10.length:Int)),(57,I y11),(62,I (v9.Decls.length:Int)),(63,I y12.2)],[(1007,.box 48 [I v9.Kind,I v9.Parent,S v9.Prefix,S v9.Local,S v9.URI,S v9.Text,.vs v9.Decls.length (F zk v9.Decls),.vs v9.Attrs.length (F qr v9.Attrs)]),(105401,.row 39 2 0 (F zk v10))],[]⟩) (fun q15=>(.exit 2,⟨[(1,I n),(5,oP Jg v4.1),(7,.ptr 1007 0),(8,.sl 105401 0 v10.length),(9,I y11),(10,B q15),(56,I (v10.length:Int)),(57,I y11)],[(1007,.box 48 [I v9.Kind,I v9.Parent,S v9.Prefix,S v9.Local,S v9.URI,S v9.Text,.vs v9.Decls.length (F zk v9.Decls),.vs v9.Attrs.length (F qr v9.Attrs)]),(105401,.row 39 2 0 (F zk v10))],[]⟩)) [(1007,1007),(105401,105401)] hB h (fun y12 t h=> ?_) (fun q15 h=> ?_)
      · unfold zQ at h;refine z.b9.g ?_;refine zn h (fun _ h=> ?_) (fun _ h=> ?_)
        · refine z.l.a.E.g ?_;refine ZR [] (.q 0 (.q 1 (.q 2 (.q 3 (.q 4 (.q 5 (.q 6 (.q 7 (.q 8 (.q 9 (.q 10 (.q 11 (.q 12 (.q 13 (.q 14 (.q 15 (.done))))))))))))))))) hm ?_;refine z.f6.g ?_;refine QI h (fun _ h=> ?_) (fun _ h=> ?_)
          · refine z.d5.d2.l4.d.q0.d1.d1.d1.g ?_;exact zv [(1007,1007),(105401,105401)] hB h
          refine z.b1.b8.o2.h0.g ?_;refine n_at h (fun v13 _ h=> ?_);refine z.b1.b1.b8.T.g ?_;refine qf h (fun v14 ev14 h=> ?_);refine z.T.g ?_;refine n_ldr0 ev14 ?_;refine z.d5.d2.l4.d.l9.s7.v.g ?_;exact zv [(1007,1007),(105401,105401)] hB h
        refine z.m.g ?_;exact zr [(1007,1007),(105401,105401)] hB h
      refine z.k6.h.w.g ?_;refine QV h (fun v16 ev16 h=> ?_);refine l_fieldAddr ?_;refine Q0 ev16 ?_;refine zo h (fun _=>space_Find_ok) (fun v17 _ h=> ?_);refine z.f7.y.b6.g ?_;refine zc h (fun _ h=> ?_) (fun _ h=> ?_)
      · refine z.s.j3.f.g ?_;refine zc h (fun _ h=> ?_) (fun _ h=> ?_)
        · refine z.e5.i0.i.n.g ?_;exact zr [] hB h
        refine z.f.s.s.g ?_;refine QV h (fun v18 ev18 h=> ?_);refine z.r4.a4.g ?_;refine l_ldr ev18 ?_;refine z.h4.i1.i2.a4.g ?_;refine zn h (fun _ h=> ?_) (fun _ h=> ?_)
        · refine z.k2.g ?_;exact zr [] hB h
        refine z.d6.g ?_;exact zv [(1007,1007),(105401,105401)] hB h
      refine z.d6.f4.i.n.n.g ?_;exact zv [(1007,1007),(105401,105401)] hB h
    refine z.m.g ?_;exact zr [] hB h
  rcases q with q19|q20
  · dsimp only [Sum.elim] at h ⊢
    refine z.q.g ?_;apply zb [] hB h
  dsimp only [Sum.elim] at h ⊢
  refine z.Z.w.g ?_;apply zb [] hB h
end Go.Proofs.YtojbjdcflgeibaaGreatDoor
