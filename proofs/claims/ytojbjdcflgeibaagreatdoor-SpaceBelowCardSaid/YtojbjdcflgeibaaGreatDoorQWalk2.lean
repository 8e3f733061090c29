/-
  WALKS, printed by aw.py: that the program's functions compute the plain ones. Conditions: none.
-/
import Derived.Test.YtojbjdcflgeibaaGreatDoorQWalk1
set_option linter.unusedVariables false
set_option linter.unusedSimpArgs false
set_option maxRecDepth 20000
set_option maxHeartbeats 4000000
namespace Go.Proofs.YtojbjdcflgeibaaGreatDoor
open Go Go.Abs W G
theorem chars_number_ok {s:Str}{base:Int}{r:Int×Bool}(h:Jm s base=some r):XSpec Tryz.prog 267 [S s,.pl (.int .i32 base)] [] (.tup [.pl (.int .i32 r.1),B r.2]) [] []:=by
  unfold Jm at h;refine zh Tryz.hU Tryz.func267 (fun _ _ _ hB=> ?_);refine z.o8.a2.f1.l.a7.g ?_;refine zL (fun y1=>⟨[(0,S s),(1,.pl (.int .i32 base)),(6,.pl (.int .i32 y1.1)),(11,I (s.length:Int)),(12,I y1.2)],[],[]⟩) (Sum.elim (fun q5=>(.ret,⟨[(4,.pl (.int .i32 0)),(5,B false)],[],[]⟩)) (fun q6=>(.exit 0,⟨[(0,S s),(6,.pl (.int .i32 q6))],[],[]⟩))) [] hB h (fun y1 t h=> ?_) (fun q h=> ?_)
  · unfold qu at h;refine z.b9.g ?_;refine zn h (fun _ h=> ?_) (fun _ h=> ?_)
    · refine z.B.a.E.g ?_;refine Qq h (fun v2 _ h=> ?_);refine z.V.c6.J.y.h1.g ?_;refine Zq (fun q3=>(.normal,⟨[(0,S s),(1,.pl (.int .i32 base)),(6,.pl (.int .i32 y1.1)),(8,.pl (.int .i32 (w32 (v2.toNat:Int)))),(9,.pl (.int .i32 base)),(11,I (s.length:Int)),(12,I y1.2),(20,B q3)],[],[]⟩)) h (fun t h=> ?_) (fun q3 h=> ?_)
      · refine z.u.j.g ?_;refine zc h (fun _ h=> ?_) (fun _ h=> ?_)
        · refine z.G.h2.x.g ?_;exact zp [] hB h
        refine z.G.h3.o.g ?_;exact zp [] hB h
      refine f_t ?_;refine zn h (fun _ h=> ?_) (fun _ h=> ?_)
      · refine z.i5.f8.G.U.j.g ?_;refine zn h (fun _ h=> ?_) (fun _ h=> ?_)
        · refine z.q.Q.g ?_;exact zr [] hB h
        refine z.d5.G.o4.a1.c.m2.p.L.g ?_;exact zv [] hB h
      refine k_seq ?_;refine Zq (fun q4=>(.normal,⟨[(0,S s),(1,.pl (.int .i32 base)),(6,.pl (.int .i32 y1.1)),(8,.pl (.int .i32 (w32 (v2.toNat:Int)))),(9,.pl (.int .i32 base)),(11,I (s.length:Int)),(12,I y1.2),(29,B q4)],[],[]⟩)) h (fun t h=> ?_) (fun q4 h=> ?_)
      · refine z.u.j.g ?_;refine zc h (fun _ h=> ?_) (fun _ h=> ?_)
        · refine z.G.h2.x.g ?_;exact zp [] hB h
        refine z.G.h3.o.g ?_;exact zp [] hB h
      refine f_t ?_;refine zn h (fun _ h=> ?_) (fun _ h=> ?_)
      · refine z.i5.f8.i7.U.j.g ?_;refine zn h (fun _ h=> ?_) (fun _ h=> ?_)
        · refine z.q.Q.g ?_;exact zr [] hB h
        refine z.d5.G.o4.a1.c.m2.p.L.g ?_;exact zv [] hB h
      refine z.u.a.g ?_;refine zc h (fun _ h=> ?_) (fun _ h=> ?_)
      · refine z.l.h2.x.g ?_;refine zn h (fun _ h=> ?_) (fun _ h=> ?_)
        · refine z.i5.f8.i7.U.j.g ?_;refine zn h (fun _ h=> ?_) (fun _ h=> ?_)
          · refine z.q.Q.g ?_;exact zr [] hB h
          refine z.d5.G.o4.a1.c.m2.p.L.g ?_;exact zv [] hB h
        refine z.i5.f8.X.g ?_;refine zn h (fun _ h=> ?_) (fun _ h=> ?_)
        · refine z.q.Q.g ?_;exact zr [] hB h
        refine z.d5.G.o4.a1.c.m2.p.L.g ?_;exact zv [] hB h
      refine z.i5.f8.X.h7.l.h3.o.g ?_;refine zn h (fun _ h=> ?_) (fun _ h=> ?_)
      · refine z.q.Q.g ?_;exact zr [] hB h
      refine z.d5.G.o4.a1.c.m2.p.L.g ?_;exact zv [] hB h
    refine z.m.g ?_;exact zr [] hB h
  rcases q with q5|q6
  · dsimp only [Sum.elim] at h ⊢
    refine z.q.g ?_;apply zb [] hB h
  dsimp only [Sum.elim] at h ⊢
  refine z.I.i2.h.w.g ?_;apply zb [] hB h
theorem utf8_ValidRune_ok {r_:Int}{r:Bool}(h:JR r_=some r):XSpec Tryz.prog 277 [.pl (.int .i32 r_)] [] (B r) [] []:=by
  unfold JR at h;refine zh Tryz.hU Tryz.func277 (fun _ _ _ hB=> ?_);refine z.u.a.c6.J.b.g ?_;refine zc h (fun _ h=> ?_) (fun _ h=> ?_)
  · refine z.l.h2.x.g ?_;refine zn h (fun _ h=> ?_) (fun _ h=> ?_)
    · refine z.k2.g ?_;apply zb [] hB h
    refine z.u.a.g ?_;refine zc h (fun _ h=> ?_) (fun _ h=> ?_)
    · refine z.l.h2.x.g ?_;refine zn h (fun _ h=> ?_) (fun _ h=> ?_)
      · refine z.k2.g ?_;apply zb [] hB h
      refine z.Z.f8.X.g ?_;apply zb [] hB h
    refine z.Z.f8.X.h7.l.h3.o.g ?_;apply zb [] hB h
  refine z.u.a.h7.l.h3.o.g ?_;refine zc h (fun _ h=> ?_) (fun _ h=> ?_)
  · refine z.l.h2.x.g ?_;refine zn h (fun _ h=> ?_) (fun _ h=> ?_)
    · refine z.k2.g ?_;apply zb [] hB h
    refine z.Z.f8.X.g ?_;apply zb [] hB h
  refine z.Z.f8.X.h7.l.h3.o.g ?_;apply zb [] hB h
theorem utf8_appendRuneNonASCII_ok {p:(List UInt8)}{r_:Int}{r:(List UInt8)}(h:Z3 p r_=some r):XSpec Tryz.prog 285 [.sl 101 0 p.length,.pl (.int .i32 r_)] [(101,.row 5 1 0 (F cU p))] (.sl 101 0 r.length) [(101,.row 5 1 0 (F cU r))] [101]:=by
  unfold Z3 at h;refine zh Tryz.hU Tryz.func285 (fun _ _ _ hB=> ?_);refine z.l.b5.a.j8.h1.a6.g ?_;refine zn h (fun _ h=> ?_) (fun _ h=> ?_)
  · refine z.h.g ?_;refine Qz (r:=(r_.fdiv (2^6))) ?_;refine z.k3.h5.c.h5.g ?_;refine Je (e:=cU) [(u8 (bor 8 192 ((u8 (r_.fdiv (2^6))).toNat:Int))),(u8 (bor 8 128 ((u8 (band 8 ((u8 r_).toNat:Int) 63)).toNat:Int)))] ?_;refine J3 h (fun v1 _ h=> ?_);refine z.A.k.g ?_;apply zb [(101,101)] hB h
  refine z.l.b5.R.g ?_;refine zn h (fun _ h=> ?_) (fun _ h=> ?_)
  · refine z.L.g ?_;refine zn h (fun _ h=> ?_) (fun _ h=> ?_)
    · refine z.h.g ?_;refine Qz (r:=(r_.fdiv (2^12))) ?_;refine z.c.h5.g ?_;refine Qz (r:=(r_.fdiv (2^6))) ?_;refine z.k3.h5.c.k3.h5.g ?_;refine Je (e:=cU) [(u8 (bor 8 224 ((u8 (r_.fdiv (2^12))).toNat:Int))),(u8 (bor 8 128 ((u8 (band 8 ((u8 (r_.fdiv (2^6))).toNat:Int) 63)).toNat:Int))),(u8 (bor 8 128 ((u8 (band 8 ((u8 r_).toNat:Int) 63)).toNat:Int)))] ?_;refine J3 h (fun v2 _ h=> ?_);refine z.A.k.g ?_;apply zb [(101,101)] hB h
    refine k_seq ?_;refine Zq (fun q3=>(.normal,⟨[(0,.sl 101 0 p.length),(1,.pl (.int .i32 r_)),(50,B q3)],[(101,.row 5 1 0 (F cU p))],[]⟩)) h (fun t h=> ?_) (fun q3 h=> ?_)
    · refine z.u.j.g ?_;refine zc h (fun _ h=> ?_) (fun _ h=> ?_)
      · refine z.G.h2.x.g ?_;exact zp [(101,101)] hB h
      refine z.G.h3.o.g ?_;exact zp [(101,101)] hB h
    refine f_t ?_;refine zn h (fun _ h=> ?_) (fun _ h=> ?_)
    · refine z.h.g ?_;refine Qz (r:=(r_.fdiv (2^18))) ?_;refine z.c.h5.g ?_;refine Qz (r:=(r_.fdiv (2^12))) ?_;refine z.c.k3.h5.g ?_;refine Qz (r:=(r_.fdiv (2^6))) ?_;refine z.k3.h5.c.k3.h5.g ?_;refine Je (e:=cU) [(u8 (bor 8 240 ((u8 (r_.fdiv (2^18))).toNat:Int))),(u8 (bor 8 128 ((u8 (band 8 ((u8 (r_.fdiv (2^12))).toNat:Int) 63)).toNat:Int))),(u8 (bor 8 128 ((u8 (band 8 ((u8 (r_.fdiv (2^6))).toNat:Int) 63)).toNat:Int))),(u8 (bor 8 128 ((u8 (band 8 ((u8 r_).toNat:Int) 63)).toNat:Int)))] ?_;refine J3 h (fun v4 _ h=> ?_);refine z.A.k.g ?_;apply zb [(101,101)] hB h
    refine z.a.g ?_;refine Je (e:=cU) [239,191,189] ?_;refine J3 h (fun v5 _ h=> ?_);refine z.A.k.g ?_;apply zb [(101,101)] hB h
  refine z.u.j.g ?_;refine zc h (fun _ h=> ?_) (fun _ h=> ?_)
  · refine z.l.h2.x.g ?_;refine zn h (fun _ h=> ?_) (fun _ h=> ?_)
    · refine z.h.g ?_;refine Qz (r:=(r_.fdiv (2^12))) ?_;refine z.c.h5.g ?_;refine Qz (r:=(r_.fdiv (2^6))) ?_;refine z.k3.h5.c.k3.h5.g ?_;refine Je (e:=cU) [(u8 (bor 8 224 ((u8 (r_.fdiv (2^12))).toNat:Int))),(u8 (bor 8 128 ((u8 (band 8 ((u8 (r_.fdiv (2^6))).toNat:Int) 63)).toNat:Int))),(u8 (bor 8 128 ((u8 (band 8 ((u8 r_).toNat:Int) 63)).toNat:Int)))] ?_;refine J3 h (fun v6 _ h=> ?_);refine z.A.k.g ?_;apply zb [(101,101)] hB h
    refine k_seq ?_;refine Zq (fun q7=>(.normal,⟨[(0,.sl 101 0 p.length),(1,.pl (.int .i32 r_)),(50,B q7)],[(101,.row 5 1 0 (F cU p))],[]⟩)) h (fun t h=> ?_) (fun q7 h=> ?_)
    · refine z.u.j.g ?_;refine zc h (fun _ h=> ?_) (fun _ h=> ?_)
      · refine z.G.h2.x.g ?_;exact zp [(101,101)] hB h
      refine z.G.h3.o.g ?_;exact zp [(101,101)] hB h
    refine f_t ?_;refine zn h (fun _ h=> ?_) (fun _ h=> ?_)
    · refine z.h.g ?_;refine Qz (r:=(r_.fdiv (2^18))) ?_;refine z.c.h5.g ?_;refine Qz (r:=(r_.fdiv (2^12))) ?_;refine z.c.k3.h5.g ?_;refine Qz (r:=(r_.fdiv (2^6))) ?_;refine z.k3.h5.c.k3.h5.g ?_;refine Je (e:=cU) [(u8 (bor 8 240 ((u8 (r_.fdiv (2^18))).toNat:Int))),(u8 (bor 8 128 ((u8 (band 8 ((u8 (r_.fdiv (2^12))).toNat:Int) 63)).toNat:Int))),(u8 (bor 8 128 ((u8 (band 8 ((u8 (r_.fdiv (2^6))).toNat:Int) 63)).toNat:Int))),(u8 (bor 8 128 ((u8 (band 8 ((u8 r_).toNat:Int) 63)).toNat:Int)))] ?_;refine J3 h (fun v8 _ h=> ?_);refine z.A.k.g ?_;apply zb [(101,101)] hB h
    refine z.a.g ?_;refine Je (e:=cU) [239,191,189] ?_;refine J3 h (fun v9 _ h=> ?_);refine z.A.k.g ?_;apply zb [(101,101)] hB h
  refine z.V.h7.l.h3.o.g ?_;refine Zq (fun q10=>(.normal,⟨[(0,.sl 101 0 p.length),(1,.pl (.int .i32 r_)),(50,B q10)],[(101,.row 5 1 0 (F cU p))],[]⟩)) h (fun t h=> ?_) (fun q10 h=> ?_)
  · refine z.u.j.g ?_;refine zc h (fun _ h=> ?_) (fun _ h=> ?_)
    · refine z.G.h2.x.g ?_;exact zp [(101,101)] hB h
    refine z.G.h3.o.g ?_;exact zp [(101,101)] hB h
  refine f_t ?_;refine zn h (fun _ h=> ?_) (fun _ h=> ?_)
  · refine z.h.g ?_;refine Qz (r:=(r_.fdiv (2^18))) ?_;refine z.c.h5.g ?_;refine Qz (r:=(r_.fdiv (2^12))) ?_;refine z.c.k3.h5.g ?_;refine Qz (r:=(r_.fdiv (2^6))) ?_;refine z.k3.h5.c.k3.h5.g ?_;refine Je (e:=cU) [(u8 (bor 8 240 ((u8 (r_.fdiv (2^18))).toNat:Int))),(u8 (bor 8 128 ((u8 (band 8 ((u8 (r_.fdiv (2^12))).toNat:Int) 63)).toNat:Int))),(u8 (bor 8 128 ((u8 (band 8 ((u8 (r_.fdiv (2^6))).toNat:Int) 63)).toNat:Int))),(u8 (bor 8 128 ((u8 (band 8 ((u8 r_).toNat:Int) 63)).toNat:Int)))] ?_;refine J3 h (fun v11 _ h=> ?_);refine z.A.k.g ?_;apply zb [(101,101)] hB h
  refine z.a.g ?_;refine Je (e:=cU) [239,191,189] ?_;refine J3 h (fun v12 _ h=> ?_);refine z.A.k.g ?_;apply zb [(101,101)] hB h
theorem utf8_AppendRune_ok {p:(List UInt8)}{r_:Int}{r:(List UInt8)}(h:Jw p r_=some r):XSpec Tryz.prog 278 [.sl 101 0 p.length,.pl (.int .i32 r_)] [(101,.row 5 1 0 (F cU p))] (.sl 101 0 r.length) [(101,.row 5 1 0 (F cU r))] [101]:=by
  unfold Jw at h;refine zh Tryz.hU Tryz.func278 (fun _ _ _ hB=> ?_);refine z.t.h1.f1.g ?_;refine zn h (fun _ h=> ?_) (fun _ h=> ?_)
  · refine z.p2.h.g ?_;refine Je (e:=cU) [(u8 r_)] ?_;refine J3 h (fun v1 _ h=> ?_);refine z.i3.k.g ?_;apply zb [(101,101)] hB h
  refine z.f5.g ?_;refine zi [] [101] h (fun _=>utf8_appendRuneNonASCII_ok) (fun v2 _ h=> ?_);refine z.k.g ?_;apply zb [(101,101)] hB h
theorem utf_Bytes_ok {l:(List Int)}{r:(List UInt8)×Bool}(h:utf_Bytes l=some r):XSpec Tryz.prog 268 [.vs l.length (F cR l)] [] (.tup [.sl 1 0 r.1.length,B r.2]) [(1,.row 5 1 0 (F cU r.1))] []:=by
  unfold utf_Bytes at h;refine zh Tryz.hU Tryz.func268 (fun _ _ _ hB=> ?_);refine z.e2.f1.l.a7.g ?_;refine k_nilrow (te:=5) (t:=4) 3004 1 ?_;refine zL (fun y1=>⟨[(4,.sl 3004 0 y1.2.length),(7,.vs l.length (F cR l)),(8,I (l.length:Int)),(9,I y1.1)],[(3004,.row 5 1 0 (F cU y1.2))],[]⟩) (Sum.elim (fun q5=>(.ret,⟨[(2,.pl (.slice none 0 0)),(3,B false)],[],[]⟩)) (fun q6=>(.exit 0,⟨[(4,.sl 3004 0 q6.length)],[(3004,.row 5 1 0 (F cU q6))],[]⟩))) [(3004,3004)] hB h (fun y1 t h=> ?_) (fun q h=> ?_)
  · unfold utf_Bytes_b1 at h;refine z.b9.g ?_;refine zn h (fun _ h=> ?_) (fun _ h=> ?_)
    · refine z.b.E.g ?_;refine QK h (fun v2 _ h=> ?_);refine z.P.k9.g ?_;refine zo h (fun _=>utf8_ValidRune_ok) (fun v3 _ h=> ?_);refine z.e6.g ?_;refine zn h (fun _ h=> ?_) (fun _ h=> ?_)
      · refine z.q.Q.g ?_;exact zr [] hB h
      refine z.p.L.g ?_;refine zi [(101,3004)] [3004] h (fun _=>utf8_AppendRune_ok) (fun v4 _ h=> ?_);refine z.d5.G.g ?_;exact zv [(3004,3004)] hB h
    refine z.m.g ?_;exact zr [(3004,3004)] hB h
  rcases q with q5|q6
  · dsimp only [Sum.elim] at h ⊢
    refine z.q.g ?_;refine f_nilrow (te:=5) (t:=2) 3002 1 ?_;apply zb [(3002,1)] hB h
  dsimp only [Sum.elim] at h ⊢
  refine z.I.a.w.g ?_;apply zb [(3004,1)] hB h
theorem J8 {s:Str}{r:Str×Bool}(h:QJ s=some r):XSpec Tryz.prog 250 [S s] [] (.tup [S r.1,B r.2]) [] []:=by
  unfold QJ at h;refine zh Tryz.hU Tryz.func250 (fun _ _ _ hB=> ?_);refine z.y.a7.g ?_;refine zo h (fun _=>JT) (fun v1 _ h=> ?_);refine z.e6.P.b6.g ?_;refine zn h (fun _ h=> ?_) (fun _ h=> ?_)
  · refine z.a.g ?_;refine zo h (fun _=>chars_named_ok) (fun v2 _ h=> ?_);refine z.f3.m9.g ?_;apply zb [] hB h
  refine z.f1.L.g ?_;refine zo h (fun _=>JT) (fun v3 _ h=> ?_);refine z.e.y.b6.g ?_;refine zn h (fun _ h=> ?_) (fun _ h=> ?_)
  · refine z.B.D.j.g ?_;refine zo h (fun _=>chars_number_ok) (fun v4 _ h=> ?_);refine z.f7.P.b6.g ?_;refine zc h (fun _ h=> ?_) (fun _ h=> ?_)
    · refine z.Q.i8.i.g ?_;apply zb [] hB h
    refine z.f.g ?_;refine zo h (fun _=>utf_Xml_ok) (fun v5 _ h=> ?_);refine z.d7.W.g ?_;refine zn h (fun _ h=> ?_) (fun _ h=> ?_)
    · refine z.Q.g ?_;apply zb [] hB h
    refine z.C.g ?_;refine Je (e:=cR) [v4.1] ?_;refine l_frz 1044 ?_;refine zi [(1,104501)] [] h (fun _=>utf_Bytes_ok) (fun v6 _ h=> ?_);refine z.I.c.o9.y.b6.g ?_;apply zb [] hB h
  refine z.f5.g ?_;refine zo h (fun _=>chars_number_ok) (fun v7 _ h=> ?_);refine z.f7.P.b6.g ?_;refine zc h (fun _ h=> ?_) (fun _ h=> ?_)
  · refine z.Q.i8.i.g ?_;apply zb [] hB h
  refine z.f.g ?_;refine zo h (fun _=>utf_Xml_ok) (fun v8 _ h=> ?_);refine z.d7.W.g ?_;refine zn h (fun _ h=> ?_) (fun _ h=> ?_)
  · refine z.Q.g ?_;apply zb [] hB h
  refine z.C.g ?_;refine Je (e:=cR) [v7.1] ?_;refine l_frz 1044 ?_;refine zi [(1,104501)] [] h (fun _=>utf_Bytes_ok) (fun v9 _ h=> ?_);refine z.I.c.o9.y.b6.g ?_;apply zb [] hB h
theorem chars_expand_ok {s:Str}{plain:(Str→Option Str)}{fk_plain:Nat}{fc_plain:List AV}(hf_plain: ∀ {x0:Str} {r:Str},plain x0=some r→XSpec Tryz.prog fk_plain ((S x0)::fc_plain) [] (S r) [] [])(hc_plain:AV.closedL fc_plain=true∧AV.onlyL [] fc_plain=true){r:Str×Bool}(h:chars_expand s plain=some r):XSpec Tryz.prog 218 [S s,.fn (.func fk_plain) [] fc_plain] [] (.tup [S r.1,B r.2]) [] []:=by
  unfold chars_expand at h;refine zh Tryz.hU Tryz.func218 (fun _ _ _ hB=> ?_);refine z.e8.a7.g ?_;refine Zq (fun q3=>(.normal,⟨[(0,S s),(1,.fn (.func fk_plain) [] fc_plain),(22,B q3)],[],[]⟩)) h (fun t h=> ?_) (fun q3 h=> ?_)
  · refine z.n8.j.g ?_;refine l_callB h (fun _=>utf_Text_ok) (fun v1 _ h=> ?_);refine z.f7.g ?_;refine zc h (fun _ h=> ?_) (fun _ h=> ?_)
    · refine z.S.o.g ?_;exact zp [] hB h
    refine z.f.g ?_;refine zo h (fun _=>ZG) (fun v2 _ h=> ?_);refine l_to [] ⟨[(0,S s),(1,.fn (.func fk_plain) [] fc_plain),(19,B false),(21,B v2)],[],[]⟩ hB ?_;refine z.c3.g ?_;exact zp [] hB h
  refine f_t ?_;refine zn h (fun _ h=> ?_) (fun _ h=> ?_)
  · refine z.Q.g ?_;apply zb [] hB h
  refine z.l8.e0.b.L.g ?_;refine k_npcell (b:=1006) (j:=0) 1006 0 ?_;refine zL (Sum.elim (fun (y4:Unit)=>⟨[(0,S s),(1,.fn (.func fk_plain) [] fc_plain),(6,.ptr 1006 0)],[(1006,.box 102 [.nptr true 1006 0,.pl (.slice none 0 0)])],[]⟩) (fun (y4:Str×(List UInt8))=>⟨[(0,S y4.1),(1,.fn (.func fk_plain) [] fc_plain),(6,.ptr 1006 0)],[(1006,.box 102 [.nptr false 1006 0,.sl 13061 0 y4.2.length]),(13061,.row 5 1 0 (F cU y4.2))],[13061]⟩)) (fun q19=>(.ret,⟨[(4,S q19.1),(5,B q19.2)],[],[13061]⟩)) [(1006,1006)] hB h (fun y4 t h=> ?_) (fun q19 h=> ?_)
  · unfold qI at h
    rcases y4 with y4|y4
    · dsimp only [Sum.elim] at h ⊢
      refine z.a.c6.g ?_;refine zo h (fun _=>Zh) (fun v5 _ h=> ?_);refine z.B.D.D.j1.j9.g ?_;refine l_callF hc_plain h (fun _=>hf_plain) (fun v6 _ h=> ?_);refine l_nilcell (te:=5) (b1:=1006) (j:=1) 13061 1 ?_;refine zi [(4000101,1006),(4000102,13061)] [1006,13061] h (fun _=>zj) (fun v7 _ h=> ?_);refine z.e6.R.e.g ?_;refine zn h (fun _ h=> ?_) (fun _ h=> ?_)
      · refine z.b.g ?_;refine zi [(6000101,1006),(6000102,13061)] [1006,13061] h (fun _=>zS) (fun v8 _ h=> ?_);refine z.A.f3.g ?_;exact zr [] hB h
      refine z.C.g ?_;refine zo h (fun _=>Zh) (fun v9 _ h=> ?_);refine z.y.D.D.j1.j9.g ?_;refine zo h (fun _=>J8) (fun v10 _ h=> ?_);refine z.f7.P.b6.g ?_;refine zc h (fun _ h=> ?_) (fun _ h=> ?_)
      · refine z.A.Q.i8.o.g ?_;exact zr [] hB h
      refine z.d7.j3.f.g ?_;refine zn h (fun _ h=> ?_) (fun _ h=> ?_)
      · refine z.A.Q.g ?_;exact zr [] hB h
      refine z.C.g ?_;refine zi [(4000101,1006),(4000102,13061)] [1006,13061] h (fun _=>zj) (fun v11 _ h=> ?_);refine z.c4.j.e.g ?_;exact zv [(1006,1006),(13061,13061)] hB h
    dsimp only [Sum.elim] at h ⊢
    refine z.a.c6.g ?_;refine zo h (fun _=>Zh) (fun v12 _ h=> ?_);refine z.B.D.D.j1.j9.g ?_;refine l_callF hc_plain h (fun _=>hf_plain) (fun v13 _ h=> ?_);refine zi [(4000101,1006),(4000102,13061)] [1006,13061] h (fun _=>zj) (fun v14 _ h=> ?_);refine z.e6.R.e.g ?_;refine zn h (fun _ h=> ?_) (fun _ h=> ?_)
    · refine z.b.g ?_;refine zi [(6000101,1006),(6000102,13061)] [1006,13061] h (fun _=>zS) (fun v15 _ h=> ?_);refine z.A.f3.g ?_;exact zr [] hB h
    refine z.C.g ?_;refine zo h (fun _=>Zh) (fun v16 _ h=> ?_);refine z.y.D.D.j1.j9.g ?_;refine zo h (fun _=>J8) (fun v17 _ h=> ?_);refine z.f7.P.b6.g ?_;refine zc h (fun _ h=> ?_) (fun _ h=> ?_)
    · refine z.A.Q.i8.o.g ?_;exact zr [] hB h
    refine z.d7.j3.f.g ?_;refine zn h (fun _ h=> ?_) (fun _ h=> ?_)
    · refine z.A.Q.g ?_;exact zr [] hB h
    refine z.C.g ?_;refine zi [(4000101,1006),(4000102,13061)] [1006,13061] h (fun _=>zj) (fun v18 _ h=> ?_);refine z.c4.j.e.g ?_;exact zv [(1006,1006),(13061,13061)] hB h
  refine f_br ?_;apply zb [] hB h
theorem strings_NewReplacer_s1_ok {u1:(List Str)}{r:(List Str)}(h:ZF u1=some r):XSpec Tryz.prog 247 [.sl 7000101 0 u1.length] [(7000101,.row 9 1 0 (F cS u1))] (.ptr 7000151 0) [(7000101,.row 9 1 0 (F cS u1)),(7000151,.box 260 [.pl (.int .u32 0),.pl (.int .i32 0),.pl (.int .u32 0),.pl .nilIface,.sl 7000152 0 r.length]),(7000152,.row 9 1 0 (F cS r))] []:=by
  unfold ZF at h;refine zh Tryz.hU Tryz.func247 (fun _ _ _ hB=> ?_);refine z.t.r8.O.f1.g ?_;refine zn h (fun _ h=> ?_) (fun _ h=> ?_)
  · refine k_reg ?_
    cases h
  refine z.C.g ?_;refine l_appc h (fun v1 _ h=> ?_);refine z.k.l3.l2.g ?_;apply zb [(7000101,7000101),(1011,7000151),(1009,7000152)] hB h
theorem atomic_Bool_Load_s1_ok {u1:(List Str)}{r:Unit}(h:QZ u1=some r):XSpec Tryz.prog 274 [.ptr 11000101 0] [(11000101,.box 260 [.pl (.int .u32 0),.pl (.int .i32 0),.pl (.int .u32 0),.pl .nilIface,.sl 11000102 0 u1.length]),(11000102,.row 9 1 0 (F cS u1))] (B false) [(11000101,.box 260 [.pl (.int .u32 0),.pl (.int .i32 0),.pl (.int .u32 0),.pl .nilIface,.sl 11000102 0 u1.length]),(11000102,.row 9 1 0 (F cS u1))] []:=by
  unfold QZ at h;refine zh Tryz.hU Tryz.func274 (fun _ _ _ hB=> ?_);refine z.c0.a6.g ?_;refine l_aload Tryz.func279 ?_;refine z.k.b5.g ?_;apply zb [(11000101,11000101),(11000102,11000102)] hB h
theorem sync_Mutex_Lock_s1_ok {u1:(List Str)}{r:Unit}(h:Jk u1=some r):XSpec Tryz.prog 286 [.ptr 14000101 1] [(14000101,.box 260 [.pl (.int .u32 0),.pl (.int .i32 0),.pl (.int .u32 0),.pl .nilIface,.sl 14000102 0 u1.length]),(14000102,.row 9 1 0 (F cS u1))] (.tup []) [(14000101,.box 260 [.pl (.int .u32 0),.pl (.int .i32 1),.pl (.int .u32 0),.pl .nilIface,.sl 14000102 0 u1.length]),(14000102,.row 9 1 0 (F cS u1))] []:=by
  unfold Jk at h;refine zh Tryz.hU Tryz.func286 (fun _ _ _ hB=> ?_);refine z.b.g ?_;refine l_nat (race0_spec Tryz.func292) ?_;refine z.c0.R.e.g ?_;refine l_acas Tryz.func293 ?_;refine z.b.e1.V.e1.e.g ?_;refine l_nat (race0_spec Tryz.func294) ?_;refine z.o3.j.e.g ?_;refine l_nat (race1_spec Tryz.func295 14000101 1) ?_;refine z.i3.k8.e.g ?_;apply zb [(14000101,14000101),(14000102,14000102)] hB h
theorem sync_Mutex_Lock_2_s1_ok {u1:(List Str)}{r:Unit}(h:QD u1=some r):XSpec Tryz.prog 280 [.ptr 13000101 1] [(13000101,.box 260 [.pl (.int .u32 0),.pl (.int .i32 0),.pl (.int .u32 0),.pl .nilIface,.sl 13000102 0 u1.length]),(13000102,.row 9 1 0 (F cS u1))] (.tup []) [(13000101,.box 260 [.pl (.int .u32 0),.pl (.int .i32 1),.pl (.int .u32 0),.pl .nilIface,.sl 13000102 0 u1.length]),(13000102,.row 9 1 0 (F cS u1))] []:=by
  unfold QD at h;refine zh Tryz.hU Tryz.func280 (fun _ _ _ hB=> ?_);refine z.c0.j.g ?_;refine zi [(14000101,13000101),(14000102,13000102)] [13000101,13000102] h (fun _=>sync_Mutex_Lock_s1_ok) (fun v1 _ h=> ?_);refine k_nil ?_;apply zb [(13000101,13000101),(13000102,13000102)] hB h
theorem atomic_Bool_Load_s2_ok {u1:(List Str)}{r:Unit}(h:QY u1=some r):XSpec Tryz.prog 274 [.ptr 15000101 0] [(15000101,.box 260 [.pl (.int .u32 0),.pl (.int .i32 1),.pl (.int .u32 0),.pl .nilIface,.sl 15000102 0 u1.length]),(15000102,.row 9 1 0 (F cS u1))] (B false) [(15000101,.box 260 [.pl (.int .u32 0),.pl (.int .i32 1),.pl (.int .u32 0),.pl .nilIface,.sl 15000102 0 u1.length]),(15000102,.row 9 1 0 (F cS u1))] []:=by
  unfold QY at h;refine zh Tryz.hU Tryz.func274 (fun _ _ _ hB=> ?_);refine z.c0.a6.g ?_;refine l_aload Tryz.func279 ?_;refine z.k.b5.g ?_;apply zb [(15000101,15000101),(15000102,15000102)] hB h
theorem strings_Replacer_build_s1_ok {u1:(List Str)}{r:(List UInt8)}(h:Za u1=some r):XSpec Tryz.prog 276 [.ptr 17000101 0] [(17000101,.box 260 [.pl (.int .u32 0),.pl (.int .i32 1),.pl (.int .u32 0),.pl .nilIface,.sl 17000102 0 u1.length]),(17000102,.row 9 1 0 (F cS u1))] (.ifc 283 (.ptr 17000151 0)) [(17000101,.box 260 [.pl (.int .u32 0),.pl (.int .i32 1),.pl (.int .u32 0),.pl .nilIface,.sl 17000102 0 u1.length]),(17000102,.row 9 1 0 (F cS u1)),(17000151,.row 282 1 0 (F cU r))] []:=by
  unfold Za at h;refine zh Tryz.hU Tryz.func276 (fun _ _ _ hB=> ?_);refine z.e8.b3.a6.g ?_;refine Zq (fun q2=>(.normal,⟨[(3,.sl 17000102 0 u1.length),(28,B q2)],[(17000101,.box 260 [.pl (.int .u32 0),.pl (.int .i32 1),.pl (.int .u32 0),.pl .nilIface,.sl 17000102 0 u1.length]),(17000102,.row 9 1 0 (F cS u1))],[]⟩)) h (fun t h=> ?_) (fun q2 h=> ?_)
  · refine z.u.O.j.g ?_;refine zc h (fun _ h=> ?_) (fun _ h=> ?_)
    · refine z.f.g ?_;refine QV h (fun v1 ev1 h=> ?_);refine l_on ?_;refine Q0 ev1 ?_;refine z.S.c7.a2.a4.g ?_;exact zp [(17000101,17000101),(17000102,17000102)] hB h
    refine z.c3.c2.n.g ?_;exact zp [(17000101,17000101),(17000102,17000102)] hB h
  refine f_t ?_;refine zn h (fun _ h=> ?_) (fun _ h=> ?_)
  · refine k_seq ?_;refine ZR [] (.q 0 (.q 1 (.q 2 (.q 3 (.q 4 (.q 5 (.e 6 (.q 7 (.q 8 (.done)))))))))) hm ?_;refine z.M.g ?_
    cases h
  refine z.j8.b.J.b.L.g ?_;refine zL (fun y5=>⟨[(3,.sl 17000102 0 u1.length),(4,B y5.1),(5,I y5.2)],[(17000101,.box 260 [.pl (.int .u32 0),.pl (.int .i32 1),.pl (.int .u32 0),.pl .nilIface,.sl 17000102 0 u1.length]),(17000102,.row 9 1 0 (F cS u1))],[]⟩) (fun q8=>(.exit 0,⟨[(3,.sl 17000102 0 u1.length),(4,B q8)],[(17000101,.box 260 [.pl (.int .u32 0),.pl (.int .i32 1),.pl (.int .u32 0),.pl .nilIface,.sl 17000102 0 u1.length]),(17000102,.row 9 1 0 (F cS u1))],[]⟩)) [(17000101,17000101),(17000102,17000102)] hB h (fun y5 t h=> ?_) (fun q8 h=> ?_)
  · unfold Z5 at h;refine z.t.O.l5.g ?_;refine zn h (fun _ h=> ?_) (fun _ h=> ?_)
    · refine z.l5.E.g ?_;refine QV h (fun v6 ev6 h=> ?_);refine Q0 ev6 ?_;refine z.t.a2.g ?_;refine zn h (fun _ h=> ?_) (fun _ h=> ?_)
      · refine z.a.g ?_
        cases h
      refine z.a1.f5.g ?_;refine QV h (fun v7 ev7 h=> ?_);refine Q0 ev7 ?_;refine z.t.a2.g ?_;refine zn h (fun _ h=> ?_) (fun _ h=> ?_)
      · refine z.i7.e4.G.n4.g ?_;exact zv [(17000101,17000101),(17000102,17000102)] hB h
      refine z.i7.e4.X.g ?_;exact zv [(17000101,17000101),(17000102,17000102)] hB h
    refine z.m.g ?_;exact zr [(17000101,17000101),(17000102,17000102)] hB h
  refine z.e.R.w.g ?_;refine zn h (fun _ h=> ?_) (fun _ h=> ?_)
  · refine z.b.g ?_;refine l_anew 256 ?_;refine z.l8.R.e.g ?_;refine zL (fun y9=>⟨[(3,.sl 17000102 0 u1.length),(6,.ptr 1006 0),(61,I y9.1)],[(17000101,.box 260 [.pl (.int .u32 0),.pl (.int .i32 1),.pl (.int .u32 0),.pl .nilIface,.sl 17000102 0 u1.length]),(17000102,.row 9 1 0 (F cS u1)),(1006,.row 282 1 0 (F cU y9.2))],[]⟩) (fun q12=>(.exit 2,⟨[(3,.sl 17000102 0 u1.length),(6,.ptr 1006 0)],[(17000101,.box 260 [.pl (.int .u32 0),.pl (.int .i32 1),.pl (.int .u32 0),.pl .nilIface,.sl 17000102 0 u1.length]),(17000102,.row 9 1 0 (F cS u1)),(1006,.row 282 1 0 (F cU q12))],[]⟩)) [(17000101,17000101),(17000102,17000102),(1006,1006)] hB h (fun y9 t h=> ?_) (fun q12 h=> ?_)
    · unfold Z7 at h;refine z.b9.g ?_;refine zn h (fun _ h=> ?_) (fun _ h=> ?_)
      · refine z.p2.p.l.a.E.g ?_;refine l_aidx h (fun v10 ev10 h=> ?_);refine l_put0 ev10 h (fun v11 ev11 h=> ?_);refine z.d5.d0.g ?_;exact zv [(17000101,17000101),(17000102,17000102),(1006,1006)] hB h
      refine z.m.g ?_;exact zr [(17000101,17000101),(17000102,17000102),(1006,1006)] hB h
    refine z.j8.U.O.R.w.g ?_;refine zL (fun y13=>⟨[(3,.sl 17000102 0 u1.length),(6,.ptr 1006 0),(8,I y13.1)],[(17000101,.box 260 [.pl (.int .u32 0),.pl (.int .i32 1),.pl (.int .u32 0),.pl .nilIface,.sl 17000102 0 u1.length]),(17000102,.row 9 1 0 (F cS u1)),(1006,.row 282 1 0 (F cU y13.2))],[]⟩) (fun q20=>(.exit 4,⟨[(6,.ptr 1006 0)],[(17000101,.box 260 [.pl (.int .u32 0),.pl (.int .i32 1),.pl (.int .u32 0),.pl .nilIface,.sl 17000102 0 u1.length]),(17000102,.row 9 1 0 (F cS u1)),(1006,.row 282 1 0 (F cU q20))],[]⟩)) [(17000101,17000101),(17000102,17000102),(1006,1006)] hB h (fun y13 t h=> ?_) (fun q20 h=> ?_)
    · unfold Z6 at h;refine z.t.R.g ?_;refine zn h (fun _ h=> ?_) (fun _ h=> ?_)
      · refine z.h.E.g ?_;refine QV h (fun v14 ev14 h=> ?_);refine Q0 ev14 ?_;refine Qq h (fun v15 _ h=> ?_);refine z.a1.B.g ?_;refine QV h (fun v16 ev16 h=> ?_);refine Q0 ev16 ?_;refine Qq h (fun v17 _ h=> ?_);refine z.p.l.g ?_;refine l_aidx h (fun v18 ev18 h=> ?_);refine l_put0 ev18 h (fun v19 ev19 h=> ?_);refine z.G.U.e4.d0.g ?_;exact zv [(17000101,17000101),(17000102,17000102),(1006,1006)] hB h
      refine z.m.g ?_;exact zr [(17000101,17000101),(17000102,17000102),(1006,1006)] hB h
    refine z.i3.k.r9.b.w.g ?_;apply zb [(17000101,17000101),(17000102,17000102),(1006,17000151)] hB h
  refine z.s0.O.C.g ?_
  cases h
theorem strings_Replacer_buildOnce_s1_ok {u1:(List Str)}{r:(List UInt8)}(h:Zd u1=some r):XSpec Tryz.prog 265 [.ptr 16000101 0] [(16000101,.box 260 [.pl (.int .u32 0),.pl (.int .i32 1),.pl (.int .u32 0),.pl .nilIface,.sl 16000102 0 u1.length]),(16000102,.row 9 1 0 (F cS u1))] (.tup []) [(16000101,.box 260 [.pl (.int .u32 0),.pl (.int .i32 1),.pl (.int .u32 0),.ifc 283 (.ptr 16000151 0),.pl (.slice none 0 0)]),(16000102,.row 9 1 0 (F cS u1)),(16000151,.row 282 1 0 (F cU r))] []:=by
  unfold Zd at h;refine zh Tryz.hU Tryz.func265 (fun _ _ _ hB=> ?_);refine z.h.g ?_;refine zi [(17000101,16000101),(17000102,16000102),(17000151,100451)] [16000101,16000102] h (fun _=>strings_Replacer_build_s1_ok) (fun v1 _ h=> ?_);refine z.d0.m3.c0.j.k1.g ?_;apply zb [(16000101,16000101),(16000102,16000102),(100451,16000151)] hB h
theorem atomic_Bool_Store_s1_ok {u1:(List UInt8)}{r:Unit}(h:JJ u1=some r):DSpec Tryz.prog 282 [.ptr 12000101 0,B true] [(12000101,.box 260 [.pl (.int .u32 0),.pl (.int .i32 1),.pl (.int .u32 0),.ifc 283 (.ptr 102051 0),.pl (.slice none 0 0)]),(102051,.row 282 1 0 (F cU u1))] (.tup []) [(12000101,.box 260 [.pl (.int .u32 1),.pl (.int .i32 1),.pl (.int .u32 0),.ifc 283 (.ptr 102051 0),.pl (.slice none 0 0)]),(102051,.row 282 1 0 (F cU u1))] []:=by
  unfold JJ at h;refine D_of_run Tryz.hU Tryz.func282 (fun _ _ _ hB=> ?_);refine ZR [5] (.q 0 (.q 1 (.q 2 (.q 3 (.e 4 (.e 5 (.done))))))) hm ?_;refine z.F.e3.q7.g ?_;refine n_callK (atomic_b32_ok (show atomic_b32 true=some 1 from rfl)) ?_;refine ge ?_;refine n_astore Tryz.func288 ?_;refine m_nil ?_;apply zb [(12000101,12000101),(102051,102051)] hB h
theorem sync_Mutex_Unlock_s1_ok {u1:(List UInt8)}{r:Unit}(h:JI u1=some r):XSpec Tryz.prog 287 [.ptr 20000101 1] [(20000101,.box 260 [.pl (.int .u32 1),.pl (.int .i32 1),.pl (.int .u32 0),.ifc 283 (.ptr 20000102 0),.pl (.slice none 0 0)]),(20000102,.row 282 1 0 (F cU u1))] (.tup []) [(20000101,.box 260 [.pl (.int .u32 1),.pl (.int .i32 0),.pl (.int .u32 0),.ifc 283 (.ptr 20000102 0),.pl (.slice none 0 0)]),(20000102,.row 282 1 0 (F cU u1))] []:=by
  unfold JI at h;refine zh Tryz.hU Tryz.func287 (fun _ _ _ hB=> ?_);refine z.o3.c5.b3.a.e1.V.g ?_;refine l_nat (race1_spec Tryz.func297 20000101 1) ?_;refine z.n4.e.g ?_;refine l_nat (race0_spec Tryz.func292) ?_;refine z.c0.c5.g ?_;refine l_aadd Tryz.func298 ?_;refine z.n4.L.h7.t.P.g ?_;refine l_nat (race0_spec Tryz.func294) ?_;refine k_nil ?_;apply zb [(20000101,20000101),(20000102,20000102)] hB h
theorem sync_Mutex_Unlock_2_s1_ok {u1:(List UInt8)}{r:Unit}(h:Ji u1=some r):DSpec Tryz.prog 281 [.ptr 12000101 1] [(12000101,.box 260 [.pl (.int .u32 1),.pl (.int .i32 1),.pl (.int .u32 0),.ifc 283 (.ptr 102051 0),.pl (.slice none 0 0)]),(102051,.row 282 1 0 (F cU u1))] (.tup []) [(12000101,.box 260 [.pl (.int .u32 1),.pl (.int .i32 0),.pl (.int .u32 0),.ifc 283 (.ptr 102051 0),.pl (.slice none 0 0)]),(102051,.row 282 1 0 (F cU u1))] []:=by
  unfold Ji at h;refine D_of_run Tryz.hU Tryz.func281 (fun _ _ _ hB=> ?_);refine z.c0.j.g ?_;refine zi [(20000101,12000101),(20000102,102051)] [12000101,102051] h (fun _=>sync_Mutex_Unlock_s1_ok) (fun v1 _ h=> ?_);refine k_nil ?_;apply zb [(12000101,12000101),(102051,102051)] hB h
theorem sync_Once_doSlow_s1_ok {u1:(List Str)}{r:(List UInt8)}(h:QX u1=some r):XSpec Tryz.prog 275 [.ptr 12000101 0,.fn (.func 265) [.ptr 12000101 0] []] [(12000101,.box 260 [.pl (.int .u32 0),.pl (.int .i32 0),.pl (.int .u32 0),.pl .nilIface,.sl 12000102 0 u1.length]),(12000102,.row 9 1 0 (F cS u1))] (.tup []) [(12000101,.box 260 [.pl (.int .u32 1),.pl (.int .i32 0),.pl (.int .u32 0),.ifc 283 (.ptr 12000151 0),.pl (.slice none 0 0)]),(12000102,.row 9 1 0 (F cS u1)),(12000151,.row 282 1 0 (F cU r))] []:=by
  unfold QX at h;refine X_of_runD Tryz.hU Tryz.func275 (fun _ _ _ hB hA=> ?_);refine z.c0.a.g ?_;refine zi [(13000101,12000101),(13000102,12000102)] [12000101,12000102] h (fun _=>sync_Mutex_Lock_2_s1_ok) (fun v1 _ h=> ?_);refine z.c0.c5.g ?_;refine l_defer hA rfl rfl rfl rfl rfl (fun p1 hp1 hn1=> ?_);refine z.c0.c5.g ?_;refine zi [(15000101,12000101),(15000102,12000102)] [12000101,12000102] h (fun _=>atomic_Bool_Load_s2_ok) (fun v2 _ h=> ?_);refine z.c0.a.e1.e6.g ?_;refine l_defer hA rfl rfl rfl rfl rfl (fun p2 hp2 hn2=> ?_);refine z.j.e.g ?_;refine zi [(16000101,12000101),(16000102,12000102),(16000151,102051)] [12000101,12000102] h (fun _=>strings_Replacer_buildOnce_s1_ok) (fun v3 _ h=> ?_);refine z.s1.d0.g ?_;obtain ⟨v4,hv4,h⟩:=bind_some h;refine leavesD_cons (ks:=[.bool true]) [12000101,102051] hp2 hn2 (atomic_Bool_Store_s1_ok hv4) ?_;obtain ⟨v5,hv5,h⟩:=bind_some h;refine leavesD_cons (ks:=[]) [12000101,102051] hp1 hn1 (sync_Mutex_Unlock_2_s1_ok hv5) ?_
  cases h
  exact leavesD_nil [(12000101,12000101),(12000102,12000102),(102051,12000151)] hB
theorem sync_Once_Do_s1_ok {u1:(List Str)}{r:(List UInt8)}(h:Ju u1=some r):XSpec Tryz.prog 264 [.ptr 10000101 0,.fn (.func 265) [.ptr 10000101 0] []] [(10000101,.box 260 [.pl (.int .u32 0),.pl (.int .i32 0),.pl (.int .u32 0),.pl .nilIface,.sl 10000102 0 u1.length]),(10000102,.row 9 1 0 (F cS u1))] (.tup []) [(10000101,.box 260 [.pl (.int .u32 1),.pl (.int .i32 0),.pl (.int .u32 0),.ifc 283 (.ptr 10000151 0),.pl (.slice none 0 0)]),(10000102,.row 9 1 0 (F cS u1)),(10000151,.row 282 1 0 (F cU r))] []:=by
  unfold Ju at h;refine zh Tryz.hU Tryz.func264 (fun _ _ _ hB=> ?_);refine z.c0.a.g ?_;refine zi [(11000101,10000101),(11000102,10000102)] [10000101,10000102] h (fun _=>atomic_Bool_Load_s1_ok) (fun v1 _ h=> ?_);refine z.p.e1.e6.g ?_;refine zi [(12000101,10000101),(12000102,10000102),(12000151,101151)] [10000101,10000102] h (fun _=>sync_Once_doSlow_s1_ok) (fun v2 _ h=> ?_);refine k_nil ?_;apply zb [(10000101,10000101),(10000102,10000102),(101151,10000151)] hB h
theorem Qs {u1:Str}{u2:(List UInt8)}{r:Str}(h:qe u1 u2=some r):XSpec Tryz.prog 331 [.ptr 21000101 0,S u1] [(21000101,.row 282 1 0 (F cU u2))] (S r) [(21000101,.row 282 1 0 (F cU u2))] []:=by
  unfold qe at h;refine zh Tryz.hU Tryz.func331 (fun _ _ _ hB=> ?_);refine z.j8.b.J.b.l.b.g ?_;refine zL (Sum.elim (fun (y1:Int)=>⟨[(0,.ptr 21000101 0),(1,S u1),(5,.pl (.slice none 0 0)),(6,I y1)],[(21000101,.row 282 1 0 (F cU u2))],[]⟩) (fun (y1:Int×(List UInt8))=>⟨[(0,.ptr 21000101 0),(1,S u1),(5,.sl 1027 0 y1.2.length),(6,I y1.1)],[(21000101,.row 282 1 0 (F cU u2)),(1027,.row 5 1 0 (F cU y1.2))],[]⟩)) (Sum.elim (fun q13=>(.exit 0,⟨[(1,S u1),(5,.pl (.slice none 0 0))],[(21000101,.row 282 1 0 (F cU u2))],[]⟩)) (fun q14=>(.exit 0,⟨[(1,S u1),(5,.sl 1027 0 q14.length)],[(21000101,.row 282 1 0 (F cU u2)),(1027,.row 5 1 0 (F cU q14))],[]⟩))) [(21000101,21000101)] hB h (fun y1 t h=> ?_) (fun q h=> ?_)
  · unfold zm at h
    rcases y1 with y1|y1
    · dsimp only [Sum.elim] at h ⊢
      refine z.t.a2.l5.g ?_;refine zn h (fun _ h=> ?_) (fun _ h=> ?_)
      · refine z.h.E.g ?_;refine Qq h (fun v2 _ h=> ?_);refine z.m4.B.g ?_;refine l_aidx h (fun v3 ev3 h=> ?_);refine Q0 ev3 ?_;refine z.t.c.g ?_;refine zn h (fun _ h=> ?_) (fun _ h=> ?_)
        · refine z.m4.k6.p.l.n8.j.e1.e.q8.R.g ?_;refine l_aidx h (fun v4 ev4 h=> ?_);refine Q0 ev4 ?_;refine QV h (fun v5 ev5 h=> ?_);refine l_put0 ev5 h (fun v6 ev6 h=> ?_);refine z.i7.e4.d0.g ?_;refine qO 5 v6.length ?_;exact zv [(21000101,21000101),(1027,1027)] hB h
        refine z.i7.e4.X.g ?_;exact zv [(21000101,21000101)] hB h
      refine z.m.g ?_;exact zr [(21000101,21000101)] hB h
    dsimp only [Sum.elim] at h ⊢
    refine z.t.a2.l5.g ?_;refine zn h (fun _ h=> ?_) (fun _ h=> ?_)
    · refine z.h.E.g ?_;refine Qq h (fun v7 _ h=> ?_);refine z.m4.B.g ?_;refine l_aidx h (fun v8 ev8 h=> ?_);refine Q0 ev8 ?_;refine z.t.c.g ?_;refine zn h (fun _ h=> ?_) (fun _ h=> ?_)
      · refine z.R.g ?_;refine l_nenil h (fun v9 _ h=> ?_);refine z.m4.k6.p.L.h7.e.g ?_;refine l_aidx h (fun v10 ev10 h=> ?_);refine Q0 ev10 ?_;refine QV h (fun v11 ev11 h=> ?_);refine l_put0 ev11 h (fun v12 ev12 h=> ?_);refine z.i7.e4.d0.g ?_;refine qO 5 v12.length ?_;exact zv [(21000101,21000101),(1027,1027)] hB h
      refine z.i7.e4.X.g ?_;exact zv [(21000101,21000101),(1027,1027)] hB h
    refine z.m.g ?_;exact zr [(21000101,21000101),(1027,1027)] hB h
  rcases q with q13|q14
  · dsimp only [Sum.elim] at h ⊢
    refine z.i3.k.a.e1.e.q8.R.w.g ?_;apply zb [(21000101,21000101)] hB h
  dsimp only [Sum.elim] at h ⊢
  refine z.R.w.g ?_;refine l_nenil h (fun v15 _ h=> ?_);refine z.k.o9.C.h7.e.g ?_;apply zb [(21000101,21000101)] hB h
theorem strings_Replacer_Replace_s1_ok {u1:Str}{u2:(List Str)}{r:Str×(List UInt8)}(h:qN u1 u2=some r):XSpec Tryz.prog 248 [.ptr 9000101 0,S u1] [(9000101,.box 260 [.pl (.int .u32 0),.pl (.int .i32 0),.pl (.int .u32 0),.pl .nilIface,.sl 9000102 0 u2.length]),(9000102,.row 9 1 0 (F cS u2))] (S r.1) [(9000101,.box 260 [.pl (.int .u32 1),.pl (.int .i32 0),.pl (.int .u32 0),.ifc 283 (.ptr 9000151 0),.pl (.slice none 0 0)]),(9000102,.row 9 1 0 (F cS u2)),(9000151,.row 282 1 0 (F cU r.2))] []:=by
  unfold qN at h;refine zh Tryz.hU Tryz.func248 (fun _ _ _ hB=> ?_);refine z.p3.c.c0.a6.g ?_;refine zi [(10000101,9000101),(10000102,9000102),(10000151,101051)] [9000101,9000102] h (fun _=>sync_Once_Do_s1_ok) (fun v1 _ h=> ?_);refine z.i6.c5.g ?_;refine l_callXI [(21000101,101051)] [101051] h (fun _=>Qs) (fun v2 _ h=> ?_);refine z.k.g ?_;apply zb [(9000101,9000101),(9000102,9000102),(101051,9000151)] hB h
theorem atomic_Bool_Load_s3_ok {u1:(List UInt8)}{r:Unit}(h:QW u1=some r):XSpec Tryz.prog 274 [.ptr 24000101 0] [(24000101,.box 260 [.pl (.int .u32 1),.pl (.int .i32 0),.pl (.int .u32 0),.ifc 283 (.ptr 24000102 0),.pl (.slice none 0 0)]),(24000102,.row 282 1 0 (F cU u1))] (B true) [(24000101,.box 260 [.pl (.int .u32 1),.pl (.int .i32 0),.pl (.int .u32 0),.ifc 283 (.ptr 24000102 0),.pl (.slice none 0 0)]),(24000102,.row 282 1 0 (F cU u1))] []:=by
  unfold QW at h;refine zh Tryz.hU Tryz.func274 (fun _ _ _ hB=> ?_);refine z.c0.a6.g ?_;refine l_aload Tryz.func279 ?_;refine z.k.b5.g ?_;apply zb [(24000101,24000101),(24000102,24000102)] hB h
theorem sync_Once_Do_s2_ok {u1:(List UInt8)}{r:Unit}(h:J9 u1=some r):XSpec Tryz.prog 264 [.ptr 23000101 0,.fn (.func 265) [.ptr 23000101 0] []] [(23000101,.box 260 [.pl (.int .u32 1),.pl (.int .i32 0),.pl (.int .u32 0),.ifc 283 (.ptr 23000102 0),.pl (.slice none 0 0)]),(23000102,.row 282 1 0 (F cU u1))] (.tup []) [(23000101,.box 260 [.pl (.int .u32 1),.pl (.int .i32 0),.pl (.int .u32 0),.ifc 283 (.ptr 23000102 0),.pl (.slice none 0 0)]),(23000102,.row 282 1 0 (F cU u1))] []:=by
  unfold J9 at h;refine zh Tryz.hU Tryz.func264 (fun _ _ _ hB=> ?_);refine z.c0.a.g ?_;refine zi [(24000101,23000101),(24000102,23000102)] [23000101,23000102] h (fun _=>atomic_Bool_Load_s3_ok) (fun v1 _ h=> ?_);refine z.X.h7.e6.g ?_;apply zb [(23000101,23000101),(23000102,23000102)] hB h
theorem strings_Replacer_Replace_s2_ok {u1:Str}{u2:(List UInt8)}{r:Str}(h:qz u1 u2=some r):XSpec Tryz.prog 248 [.ptr 22000101 0,S u1] [(22000101,.box 260 [.pl (.int .u32 1),.pl (.int .i32 0),.pl (.int .u32 0),.ifc 283 (.ptr 22000102 0),.pl (.slice none 0 0)]),(22000102,.row 282 1 0 (F cU u2))] (S r) [(22000101,.box 260 [.pl (.int .u32 1),.pl (.int .i32 0),.pl (.int .u32 0),.ifc 283 (.ptr 22000102 0),.pl (.slice none 0 0)]),(22000102,.row 282 1 0 (F cU u2))] []:=by
  unfold qz at h;refine zh Tryz.hU Tryz.func248 (fun _ _ _ hB=> ?_);refine z.p3.c.c0.a6.g ?_;refine zi [(23000101,22000101),(23000102,22000102)] [22000101,22000102] h (fun _=>sync_Once_Do_s2_ok) (fun v1 _ h=> ?_);refine z.i6.c5.g ?_;refine l_callXI [(21000101,22000102)] [22000102] h (fun _=>Qs) (fun v2 _ h=> ?_);refine z.k.g ?_;apply zb [(22000101,22000101),(22000102,22000102)] hB h
theorem chars_expand_s1_ok {u1:Str}{u2:(List Str)}{r:Str×Bool}(h:zab u1 u2=some r):XSpec Tryz.prog 218 [S u1,.fn (.func 248) [.ptr 8000101 0] []] [(8000101,.box 260 [.pl (.int .u32 0),.pl (.int .i32 0),.pl (.int .u32 0),.pl .nilIface,.sl 8000102 0 u2.length]),(8000102,.row 9 1 0 (F cS u2))] (.tup [S r.1,B r.2]) [(8000102,.row 9 1 0 (F cS u2))] [8000101]:=by
  unfold zab at h;refine zh Tryz.hU Tryz.func218 (fun _ _ _ hB=> ?_);refine z.e8.a7.g ?_;refine Zq (fun q3=>(.normal,⟨[(0,S u1),(1,.fn (.func 248) [.ptr 8000101 0] []),(22,B q3)],[(8000101,.box 260 [.pl (.int .u32 0),.pl (.int .i32 0),.pl (.int .u32 0),.pl .nilIface,.sl 8000102 0 u2.length]),(8000102,.row 9 1 0 (F cS u2))],[]⟩)) h (fun t h=> ?_) (fun q3 h=> ?_)
  · refine z.n8.j.g ?_;refine l_callB h (fun _=>utf_Text_ok) (fun v1 _ h=> ?_);refine z.f7.g ?_;refine zc h (fun _ h=> ?_) (fun _ h=> ?_)
    · refine z.S.o.g ?_;exact zp [(8000101,8000101),(8000102,8000102)] hB h
    refine z.f.g ?_;refine zo h (fun _=>ZG) (fun v2 _ h=> ?_);refine l_to [(8000101,8000101),(8000102,8000102)] ⟨[(0,S u1),(1,.fn (.func 248) [.ptr 8000101 0] []),(19,B false),(21,B v2)],[(8000101,.box 260 [.pl (.int .u32 0),.pl (.int .i32 0),.pl (.int .u32 0),.pl .nilIface,.sl 8000102 0 u2.length]),(8000102,.row 9 1 0 (F cS u2))],[]⟩ hB ?_;refine z.c3.g ?_;exact zp [(8000101,8000101),(8000102,8000102)] hB h
  refine f_t ?_;refine zn h (fun _ h=> ?_) (fun _ h=> ?_)
  · refine z.Q.g ?_;apply zb [(8000102,8000102)] hB h
  refine z.l8.e0.b.L.g ?_;refine k_npcell (b:=1006) (j:=0) 1006 0 ?_;refine zL (Sum.elim (fun (y4:Unit)=>⟨[(0,S u1),(1,.fn (.func 248) [.ptr 8000101 0] []),(6,.ptr 1006 0)],[(8000101,.box 260 [.pl (.int .u32 0),.pl (.int .i32 0),.pl (.int .u32 0),.pl .nilIface,.sl 8000102 0 u2.length]),(8000102,.row 9 1 0 (F cS u2)),(1006,.box 102 [.nptr true 1006 0,.pl (.slice none 0 0)])],[]⟩) (fun (y4:Str×(List UInt8)×(List UInt8))=>⟨[(0,S y4.1),(1,.fn (.func 248) [.ptr 8000101 0] []),(6,.ptr 1006 0)],[(8000101,.box 260 [.pl (.int .u32 1),.pl (.int .i32 0),.pl (.int .u32 0),.ifc 283 (.ptr 103151 0),.pl (.slice none 0 0)]),(8000102,.row 9 1 0 (F cS u2)),(1006,.box 102 [.nptr false 1006 0,.sl 13061 0 y4.2.2.length]),(103151,.row 282 1 0 (F cU y4.2.1)),(13061,.row 5 1 0 (F cU y4.2.2))],[13061]⟩)) (fun q19=>(.ret,⟨[(4,S q19.1),(5,B q19.2.1)],[(8000101,.box 260 [.pl (.int .u32 1),.pl (.int .i32 0),.pl (.int .u32 0),.ifc 283 (.ptr 103151 0),.pl (.slice none 0 0)]),(8000102,.row 9 1 0 (F cS u2)),(103151,.row 282 1 0 (F cU q19.2.2))],[13061]⟩)) [(8000101,8000101),(8000102,8000102),(1006,1006)] hB h (fun y4 t h=> ?_) (fun q19 h=> ?_)
  · unfold qn at h
    rcases y4 with y4|y4
    · dsimp only [Sum.elim] at h ⊢
      refine z.a.c6.g ?_;refine zo h (fun _=>Zh) (fun v5 _ h=> ?_);refine z.B.D.D.j1.j9.g ?_;refine zi [(9000101,8000101),(9000102,8000102),(9000151,103151)] [8000101,8000102] h (fun _=>strings_Replacer_Replace_s1_ok) (fun v6 _ h=> ?_);refine l_nilcell (te:=5) (b1:=1006) (j:=1) 13061 1 ?_;refine zi [(4000101,1006),(4000102,13061)] [1006,13061] h (fun _=>zj) (fun v7 _ h=> ?_);refine z.e6.R.e.g ?_;refine zn h (fun _ h=> ?_) (fun _ h=> ?_)
      · refine z.b.g ?_;refine zi [(6000101,1006),(6000102,13061)] [1006,13061] h (fun _=>zS) (fun v8 _ h=> ?_);refine z.A.f3.g ?_;exact zr [(8000101,8000101),(8000102,8000102),(103151,103151)] hB h
      refine z.C.g ?_;refine zo h (fun _=>Zh) (fun v9 _ h=> ?_);refine z.y.D.D.j1.j9.g ?_;refine zo h (fun _=>J8) (fun v10 _ h=> ?_);refine z.f7.P.b6.g ?_;refine zc h (fun _ h=> ?_) (fun _ h=> ?_)
      · refine z.A.Q.i8.o.g ?_;exact zr [(8000101,8000101),(8000102,8000102),(103151,103151)] hB h
      refine z.d7.j3.f.g ?_;refine zn h (fun _ h=> ?_) (fun _ h=> ?_)
      · refine z.A.Q.g ?_;exact zr [(8000101,8000101),(8000102,8000102),(103151,103151)] hB h
      refine z.C.g ?_;refine zi [(4000101,1006),(4000102,13061)] [1006,13061] h (fun _=>zj) (fun v11 _ h=> ?_);refine z.c4.j.e.g ?_;exact zv [(8000101,8000101),(8000102,8000102),(1006,1006),(103151,103151),(13061,13061)] hB h
    dsimp only [Sum.elim] at h ⊢
    refine z.a.c6.g ?_;refine zo h (fun _=>Zh) (fun v12 _ h=> ?_);refine z.B.D.D.j1.j9.g ?_;refine zi [(22000101,8000101),(22000102,103151)] [8000101,103151] h (fun _=>strings_Replacer_Replace_s2_ok) (fun v13 _ h=> ?_);refine zi [(4000101,1006),(4000102,13061)] [1006,13061] h (fun _=>zj) (fun v14 _ h=> ?_);refine z.e6.R.e.g ?_;refine zn h (fun _ h=> ?_) (fun _ h=> ?_)
    · refine z.b.g ?_;refine zi [(6000101,1006),(6000102,13061)] [1006,13061] h (fun _=>zS) (fun v15 _ h=> ?_);refine z.A.f3.g ?_;exact zr [(8000101,8000101),(8000102,8000102),(103151,103151)] hB h
    refine z.C.g ?_;refine zo h (fun _=>Zh) (fun v16 _ h=> ?_);refine z.y.D.D.j1.j9.g ?_;refine zo h (fun _=>J8) (fun v17 _ h=> ?_);refine z.f7.P.b6.g ?_;refine zc h (fun _ h=> ?_) (fun _ h=> ?_)
    · refine z.A.Q.i8.o.g ?_;exact zr [(8000101,8000101),(8000102,8000102),(103151,103151)] hB h
    refine z.d7.j3.f.g ?_;refine zn h (fun _ h=> ?_) (fun _ h=> ?_)
    · refine z.A.Q.g ?_;exact zr [(8000101,8000101),(8000102,8000102),(103151,103151)] hB h
    refine z.C.g ?_;refine zi [(4000101,1006),(4000102,13061)] [1006,13061] h (fun _=>zj) (fun v18 _ h=> ?_);refine z.c4.j.e.g ?_;exact zv [(8000101,8000101),(8000102,8000102),(1006,1006),(103151,103151),(13061,13061)] hB h
  refine f_br ?_;refine f_nilcell (te:=9) (b1:=8000101) (j:=4) 80004014 1 ?_;apply zb [(8000102,8000102)] hB h
theorem chars_Value_ok {s:Str}{r:Str×Bool}(h:chars_Value s=some r):XSpec Tryz.prog 216 [S s] [] (.tup [S r.1,B r.2]) [] []:=by
  unfold chars_Value at h;refine zh Tryz.hU Tryz.func216 (fun _ _ _ hB=> ?_);refine z.b.l.a7.g ?_;refine Je (e:=cS) [[9],[32],[10],[32],[13],[32]] ?_;refine zi [(7000101,1005),(7000151,100651),(7000152,100652)] [1005] h (fun _=>strings_NewReplacer_s1_ok) (fun v1 _ h=> ?_);refine z.p3.B.g ?_;refine zi [(8000101,100651),(8000102,100652)] [100651,100652] h (fun _=>chars_expand_s1_ok) (fun v2 _ h=> ?_);refine z.I.m9.g ?_;apply zb [] hB h
theorem stringslite_IndexByte_ok {s:Str}{c:UInt8}{r:Int}(h:JD s c=some r):XSpec Tryz.prog 217 [S s,U c] [] (I r) [] []:=by
  unfold JD at h;refine zh Tryz.hU Tryz.func217 (fun _ _ _ hB=> ?_);refine z.B.b.g ?_;refine l_nat (indexByte_spec Tryz.func249 s c) ?_;refine z.k.g ?_;apply zb [] hB h
theorem strings_IndexByte_ok {s:Str}{c:UInt8}{r:Int}(h:JG s c=some r):XSpec Tryz.prog 168 [S s,U c] [] (I r) [] []:=by
  unfold JG at h;refine zh Tryz.hU Tryz.func168 (fun _ _ _ hB=> ?_);refine z.B.b.g ?_;refine zo h (fun _=>stringslite_IndexByte_ok) (fun v1 _ h=> ?_);refine z.k.g ?_;apply zb [] hB h
theorem name_Trim_ok {s:Str}{r:Str}(h:name_Trim s=some r):XSpec Tryz.prog 169 [S s] [] (S r) [] []:=by
  unfold name_Trim at h;refine zh Tryz.hU Tryz.func169 (fun _ _ _ hB=> ?_);refine z.c6.J.b.g ?_;refine zL (fun y1=>⟨[(0,S y1)],[],[]⟩) (fun q5=>(.exit 0,⟨[(0,S q5)],[],[]⟩)) [] hB h (fun y1 t h=> ?_) (fun q5 h=> ?_)
  · unfold name_Trim_b1 at h;refine z.c.i2.R.g ?_;refine zc h (fun _ h=> ?_) (fun _ h=> ?_)
    · refine z.f.g ?_;refine Qq h (fun v2 _ h=> ?_);refine l_on ?_;refine zo h (fun _=>J5) (fun v3 _ h=> ?_);refine z.h4.g ?_;refine zn h (fun _ h=> ?_) (fun _ h=> ?_)
      · refine z.j.j7.g ?_;refine Zz h (fun v4 _ h=> ?_);refine z.c4.g ?_;exact zv [] hB h
      refine z.m.g ?_;exact zr [] hB h
    refine z.m.f4.i.g ?_;exact zr [] hB h
  refine z.c6.V.w.g ?_;refine zL (fun y6=>⟨[(0,S y6)],[],[]⟩) (fun q10=>(.exit 2,⟨[(0,S q10)],[],[]⟩)) [] hB h (fun y6 t h=> ?_) (fun q10 h=> ?_)
  · unfold name_Trim_b2 at h;refine z.c.i2.R.g ?_;refine zc h (fun _ h=> ?_) (fun _ h=> ?_)
    · refine z.a4.U.a4.a2.f.s.g ?_;refine Qq h (fun v7 _ h=> ?_);refine l_on ?_;refine zo h (fun _=>J5) (fun v8 _ h=> ?_);refine z.h4.g ?_;refine zn h (fun _ h=> ?_) (fun _ h=> ?_)
      · refine z.U.a2.p.j7.g ?_;refine Zz h (fun v9 _ h=> ?_);refine z.c4.g ?_;exact zv [] hB h
      refine z.m.g ?_;exact zr [] hB h
    refine z.m.f4.k0.g ?_;exact zr [] hB h
  refine z.k.a.w.g ?_;apply zb [] hB h
theorem chars_Content_c1_ok {x:Str}{r:Str}(h:J1 x=some r):XSpec Tryz.prog 219 [S x] [] (S r) [] []:=by
  unfold J1 at h;refine zh Tryz.hU Tryz.func219 (fun _ _ _ hB=> ?_);refine z.k.a6.g ?_;apply zb [] hB h
theorem chars_Content_ok {s:Str}{r:Str×Bool}(h:QT s=some r):XSpec Tryz.prog 170 [S s] [] (.tup [S r.1,B r.2]) [] []:=by
  unfold QT at h;refine zh Tryz.hU Tryz.func170 (fun _ _ _ hB=> ?_);refine z.P.a7.g ?_;refine zo h (fun _=>ZG) (fun v1 _ h=> ?_);refine z.e.g ?_;refine zn h (fun _ h=> ?_) (fun _ h=> ?_)
  · refine z.Q.g ?_;apply zb [] hB h
  refine z.C.g ?_;refine zo h (fun _=>chars_expand_ok (fun h=>chars_Content_c1_ok h) ⟨rfl,rfl⟩) (fun v2 _ h=> ?_);refine z.I.m9.g ?_;apply zb [] hB h
theorem doc_bare_ok {x:zd}{r:Bool}(h:doc_bare x=some r):XSpec Tryz.prog 171 [.agg (zl x)] [] (B r) [] []:=by
  unfold doc_bare at h;refine zh Tryz.hU Tryz.func171 (fun _ _ _ hB=> ?_);refine z.c.b7.f9.l.l3.b.g ?_;refine zc h (fun _ h=> ?_) (fun _ h=> ?_)
  · refine z.b2.i9.g ?_;refine zc h (fun _ h=> ?_) (fun _ h=> ?_)
    · refine z.b2.c7.O.H.g ?_;refine zc h (fun _ h=> ?_) (fun _ h=> ?_)
      · refine z.a8.c7.O.H.g ?_;apply zb [] hB h
      refine z.c1.n.g ?_;apply zb [] hB h
    refine z.c1.h6.n.g ?_;apply zb [] hB h
  refine z.c1.h6.h6.i.g ?_;apply zb [] hB h
theorem doc_stands_ok {l:(List zd)}{n:Int}{r:Bool}(h:zaf l n=some r):XSpec Tryz.prog 172 [.vs l.length (F zl l),I n] [] (B r) [] []:=by
  unfold zaf at h;refine zh Tryz.hU Tryz.func172 (fun _ _ _ hB=> ?_);refine z.j8.U.f1.g ?_;refine zL (fun y1=>⟨[(0,.vs l.length (F zl l)),(1,I n),(5,I y1)],[],[]⟩) (Sum.elim (fun q6=>(.ret,⟨[(4,B q6)],[],[]⟩)) (fun q7=>(.exit 0,⟨[],[],[]⟩))) [] hB h (fun y1 t h=> ?_) (fun q h=> ?_)
  · unfold ZV at h;refine z.t.R.g ?_;refine zn h (fun _ h=> ?_) (fun _ h=> ?_)
    · refine z.c.h.E.g ?_;refine QK h (fun v2 _ h=> ?_);refine z.t.a0.g ?_;refine zn h (fun _ h=> ?_) (fun _ h=> ?_)
      · refine z.h.g ?_;refine QK h (fun v3 _ h=> ?_);refine z.u.a0.g ?_;refine zc h (fun _ h=> ?_) (fun _ h=> ?_)
        · refine z.q.a8.k0.g ?_;exact zr [] hB h
        refine z.f.s.g ?_;refine QK h (fun v4 _ h=> ?_);refine z.k4.b5.H.g ?_;exact zr [] hB h
      refine z.p.f8.X.g ?_;refine QK h (fun v5 _ h=> ?_);refine z.G.a0.g ?_;exact zv [] hB h
    refine z.m.g ?_;exact zr [] hB h
  rcases q with q6|q7
  · dsimp only [Sum.elim] at h ⊢
    refine z.q.g ?_;apply zb [] hB h
  dsimp only [Sum.elim] at h ⊢
  refine z.Z.w.g ?_;apply zb [] hB h
theorem doc_declared_c1_ok {o:za}{p1:za}{r:Bool}(h:zad o p1=some r):XSpec Tryz.prog 252 [.agg (zk o),.vptr (zk p1)] [] (B r) [] []:=by
  unfold zad at h;refine zh Tryz.hU Tryz.func252 (fun _ _ _ hB=> ?_);refine z.k.b7.a0.f9.l.l3.b.g ?_;apply zb [] hB h
theorem slices_IndexFunc_Decl_ok {s:(List za)}{f:(za→Option Bool)}{fk_f:Nat}{fc_f:List AV}(hf_f: ∀ {x0:za} {r:Bool},f x0=some r→XSpec Tryz.prog fk_f ((.agg (zk x0))::fc_f) [] (B r) [] [])(hc_f:AV.closedL fc_f=true∧AV.onlyL [] fc_f=true){r:Int}(h:Qv s f=some r):XSpec Tryz.prog 269 [.vs s.length (F zk s),.fn (.func fk_f) [] fc_f] [] (I r) [] []:=by
  unfold Qv at h;refine zh Tryz.hU Tryz.func269 (fun _ _ _ hB=> ?_);refine z.e2.f1.g ?_;refine zL (fun y1=>⟨[(0,.vs s.length (F zk s)),(1,.fn (.func fk_f) [] fc_f),(7,I (s.length:Int)),(8,I y1)],[],[]⟩) (Sum.elim (fun q4=>(.ret,⟨[(4,I q4)],[],[]⟩)) (fun q5=>(.exit 0,⟨[],[],[]⟩))) [] hB h (fun y1 t h=> ?_) (fun q h=> ?_)
  · unfold qi at h;refine z.b9.g ?_;refine zn h (fun _ h=> ?_) (fun _ h=> ?_)
    · refine z.c.B.a.E.g ?_;refine QK h (fun v2 _ h=> ?_);refine l_load_agg ?_;refine l_callF hc_f h (fun _=>hf_f) (fun v3 _ h=> ?_);refine z.e.g ?_;refine zn h (fun _ h=> ?_) (fun _ h=> ?_)
      · refine z.q.k.a.g ?_;exact zr [] hB h
      refine z.d6.g ?_;exact zv [] hB h
    refine z.m.g ?_;exact zr [] hB h
  rcases q with q4|q5
  · dsimp only [Sum.elim] at h ⊢
    refine z.q.g ?_;apply zb [] hB h
  dsimp only [Sum.elim] at h ⊢
  refine z.Z.w.g ?_;apply zb [] hB h
theorem slices_ContainsFunc_Decl_ok {s:(List za)}{f:(za→Option Bool)}{fk_f:Nat}{fc_f:List AV}(hf_f: ∀ {x0:za} {r:Bool},f x0=some r→XSpec Tryz.prog fk_f ((.agg (zk x0))::fc_f) [] (B r) [] [])(hc_f:AV.closedL fc_f=true∧AV.onlyL [] fc_f=true){r:Bool}(h:Zj s f=some r):XSpec Tryz.prog 251 [.vs s.length (F zk s),.fn (.func fk_f) [] fc_f] [] (B r) [] []:=by
  unfold Zj at h;refine zh Tryz.hU Tryz.func251 (fun _ _ _ hB=> ?_);refine z.B.b.g ?_;refine zo h (fun _=>slices_IndexFunc_Decl_ok (fun h=>hf_f h) hc_f) (fun v1 _ h=> ?_);refine z.k.b5.g ?_;apply zb [] hB h
theorem doc_prefix_ok {s:Str}{r:Bool}(h:JP s=some r):XSpec Tryz.prog 253 [S s] [] (B r) [] []:=by
  unfold JP at h;refine zh Tryz.hU Tryz.func253 (fun _ _ _ hB=> ?_);refine z.c.b7.a6.g ?_;refine zc h (fun _ h=> ?_) (fun _ h=> ?_)
  · refine z.a8.o.g ?_;apply zb [] hB h
  refine z.f.g ?_;refine zo h (fun _=>Qr) (fun v1 _ h=> ?_);refine z.c1.g ?_;apply zb [] hB h
theorem Jb {s:Str}{r:Bool}(h:Jv s=some r):XSpec Tryz.prog 222 [S s] [] (B r) [] []:=by
  unfold Jv at h;refine zh Tryz.hU Tryz.func222 (fun _ _ _ hB=> ?_);refine z.n8.a6.g ?_;refine l_callB h (fun _=>utf_Text_ok) (fun v1 _ h=> ?_);refine z.k.g ?_;apply zb [] hB h
theorem doc_declared_ok {l:(List za)}{r:Bool}(h:doc_declared l=some r):XSpec Tryz.prog 220 [.vs l.length (F zk l)] [] (B r) [] []:=by
  unfold doc_declared at h;refine zh Tryz.hU Tryz.func220 (fun _ _ _ hB=> ?_);refine z.e2.f1.g ?_;refine zL (fun y1=>⟨[(0,.vs l.length (F zk l)),(6,.vs l.length (F zk l)),(7,I (l.length:Int)),(8,I y1)],[],[]⟩) (Sum.elim (fun q7=>(.ret,⟨[(2,B false)],[],[]⟩)) (fun q8=>(.exit 0,⟨[],[],[]⟩))) [] hB h (fun y1 t h=> ?_) (fun q h=> ?_)
  · unfold Z4 at h;refine z.b9.g ?_;refine zn h (fun _ h=> ?_) (fun _ h=> ?_)
    · refine z.a.E.g ?_;refine QK h (fun v2 _ h=> ?_);refine z.h.d4.D.e0.d9.g ?_;refine l_subf h (fun v3 _ h=> ?_);refine l_makeFunc ?_;refine l_callB h (fun _=>slices_ContainsFunc_Decl_ok (fun h=>doc_declared_c1_ok h) ⟨rfl,rfl⟩) (fun v4 _ h=> ?_);refine z.B.g ?_;refine zc h (fun _ h=> ?_) (fun _ h=> ?_)
      · refine z.e5.j4.i.d8.N.N.j4.n.g ?_;exact zr [] hB h
      refine z.H.g ?_;refine zo h (fun _=>doc_prefix_ok) (fun v5 _ h=> ?_);refine z.r.W.g ?_;refine zc h (fun _ h=> ?_) (fun _ h=> ?_)
      · refine z.e5.j4.i.d8.N.N.i.g ?_;exact zr [] hB h
      refine z.r.i9.g ?_;refine zc h (fun _ h=> ?_) (fun _ h=> ?_)
      · refine z.e5.j4.i.d8.d8.g ?_;exact zr [] hB h
      refine z.H.g ?_;refine zo h (fun _=>Jb) (fun v6 _ h=> ?_);refine z.r.W.g ?_;refine zc h (fun _ h=> ?_) (fun _ h=> ?_)
      · refine z.e5.j4.i.d8.n.g ?_;exact zr [] hB h
      refine z.s.i9.g ?_;refine zc h (fun _ h=> ?_) (fun _ h=> ?_)
      · refine z.r.i0.i2.H.g ?_;refine zc h (fun _ h=> ?_) (fun _ h=> ?_)
        · refine z.e5.j4.i.n.g ?_;exact zr [] hB h
        refine z.r.q9.a4.i9.i9.g ?_;refine zc h (fun _ h=> ?_) (fun _ h=> ?_)
        · refine z.e5.i.g ?_;exact zr [] hB h
        refine z.d7.i9.g ?_;refine zn h (fun _ h=> ?_) (fun _ h=> ?_)
        · refine z.k2.g ?_;exact zr [] hB h
        refine z.d6.g ?_;exact zv [] hB h
      refine z.r.q9.a4.i9.i9.r.i1.i.g ?_;refine zc h (fun _ h=> ?_) (fun _ h=> ?_)
      · refine z.e5.i.g ?_;exact zr [] hB h
      refine z.d7.i9.g ?_;refine zn h (fun _ h=> ?_) (fun _ h=> ?_)
      · refine z.k2.g ?_;exact zr [] hB h
      refine z.d6.g ?_;exact zv [] hB h
    refine z.m.g ?_;exact zr [] hB h
  rcases q with q7|q8
  · dsimp only [Sum.elim] at h ⊢
    refine z.q.g ?_;apply zb [] hB h
  dsimp only [Sum.elim] at h ⊢
  refine z.Z.w.g ?_;apply zb [] hB h
theorem doc_means_ok {l:(List zd)}{n:Int}{p:Str}{r:Str×Bool}(h:doc_means l n p=some r):XSpec Tryz.prog 254 [.vs l.length (F zl l),I n,S p] [] (.tup [S r.1,B r.2]) [] []:=by
  unfold doc_means at h;refine zh Tryz.hU Tryz.func254 (fun _ _ _ hB=> ?_);refine z.e.b7.P.a7.g ?_;refine zn h (fun _ h=> ?_) (fun _ h=> ?_)
  · refine z.Q.g ?_;apply zb [] hB h
  refine z.E.g ?_;refine zL (fun y1=>⟨[(0,.vs l.length (F zl l)),(1,I y1),(2,S p)],[],[]⟩) (Sum.elim (fun q8=>(.ret,⟨[(6,S q8),(7,B true)],[],[]⟩)) (fun q9=>(.exit 0,⟨[(2,S p)],[],[]⟩))) [] hB h (fun y1 t h=> ?_) (fun q h=> ?_)
  · unfold doc_means_b1 at h;refine z.t.R.g ?_;refine zn h (fun _ h=> ?_) (fun _ h=> ?_)
    · refine z.h.E.g ?_;refine QK h (fun v2 _ h=> ?_);refine z.e2.a0.g ?_;refine zL (fun y3=>⟨[(0,.vs l.length (F zl l)),(1,I y1),(2,S p),(23,.vs v2.Decls.length (F zk v2.Decls)),(24,I (v2.Decls.length:Int)),(25,I y3)],[],[]⟩) (Sum.elim (fun q5=>(.ret,⟨[(6,S q5),(7,B true)],[],[]⟩)) (fun q6=>(.exit 2,⟨[(0,.vs l.length (F zl l)),(1,I y1),(2,S p)],[],[]⟩))) [] hB h (fun y3 t h=> ?_) (fun q h=> ?_)
      · unfold doc_means_b2 at h;refine z.b9.g ?_;refine zn h (fun _ h=> ?_) (fun _ h=> ?_)
        · refine z.b.E.g ?_;refine QK h (fun v4 _ h=> ?_);refine z.e.b7.c.f9.d4.e0.d9.g ?_;refine zn h (fun _ h=> ?_) (fun _ h=> ?_)
          · refine z.q.I.f9.g ?_;exact zr [] hB h
          refine z.d6.g ?_;exact zv [] hB h
        refine z.m.g ?_;exact zr [] hB h
      rcases q with q5|q6
      · dsimp only [Sum.elim] at h ⊢
        refine z.q.A.g ?_;exact zr [] hB h
      dsimp only [Sum.elim] at h ⊢
      refine z.p.f8.m8.g ?_;refine QK h (fun v7 _ h=> ?_);refine z.G.a0.g ?_;exact zv [] hB h
    refine z.m.g ?_;exact zr [] hB h
  rcases q with q8|q9
  · dsimp only [Sum.elim] at h ⊢
    refine z.q.g ?_;apply zb [] hB h
  dsimp only [Sum.elim] at h ⊢
  refine z.I.b7.a.w.g ?_;apply zb [] hB h
theorem doc_named_c1_ok {o:z6}{p1:z6}{r:Bool}(h:JV o p1=some r):XSpec Tryz.prog 256 [.agg (qr o),.vptr (qr p1)] [] (B r) [] []:=by
  unfold JV at h;refine zh Tryz.hU Tryz.func256 (fun _ _ _ hB=> ?_);refine z.c.b7.a0.f9.l.l3.b.g ?_;refine zc h (fun _ h=> ?_) (fun _ h=> ?_)
  · refine z.a8.b7.n9.H.g ?_;apply zb [] hB h
  refine z.c1.c2.n.g ?_;apply zb [] hB h
theorem slices_IndexFunc_Attr_ok {s:(List z6)}{f:(z6→Option Bool)}{fk_f:Nat}{fc_f:List AV}(hf_f: ∀ {x0:z6} {r:Bool},f x0=some r→XSpec Tryz.prog fk_f ((.agg (qr x0))::fc_f) [] (B r) [] [])(hc_f:AV.closedL fc_f=true∧AV.onlyL [] fc_f=true){r:Int}(h:Qx s f=some r):XSpec Tryz.prog 270 [.vs s.length (F qr s),.fn (.func fk_f) [] fc_f] [] (I r) [] []:=by
  unfold Qx at h;refine zh Tryz.hU Tryz.func270 (fun _ _ _ hB=> ?_);refine z.e2.f1.g ?_;refine zL (fun y1=>⟨[(0,.vs s.length (F qr s)),(1,.fn (.func fk_f) [] fc_f),(7,I (s.length:Int)),(8,I y1)],[],[]⟩) (Sum.elim (fun q4=>(.ret,⟨[(4,I q4)],[],[]⟩)) (fun q5=>(.exit 0,⟨[],[],[]⟩))) [] hB h (fun y1 t h=> ?_) (fun q h=> ?_)
  · unfold ql at h;refine z.b9.g ?_;refine zn h (fun _ h=> ?_) (fun _ h=> ?_)
    · refine z.c.B.a.E.g ?_;refine QK h (fun v2 _ h=> ?_);refine l_load_agg ?_;refine l_callF hc_f h (fun _=>hf_f) (fun v3 _ h=> ?_);refine z.e.g ?_;refine zn h (fun _ h=> ?_) (fun _ h=> ?_)
      · refine z.q.k.a.g ?_;exact zr [] hB h
      refine z.d6.g ?_;exact zv [] hB h
    refine z.m.g ?_;exact zr [] hB h
  rcases q with q4|q5
  · dsimp only [Sum.elim] at h ⊢
    refine z.q.g ?_;apply zb [] hB h
  dsimp only [Sum.elim] at h ⊢
  refine z.Z.w.g ?_;apply zb [] hB h
theorem JF {s:(List z6)}{f:(z6→Option Bool)}{fk_f:Nat}{fc_f:List AV}(hf_f: ∀ {x0:z6} {r:Bool},f x0=some r→XSpec Tryz.prog fk_f ((.agg (qr x0))::fc_f) [] (B r) [] [])(hc_f:AV.closedL fc_f=true∧AV.onlyL [] fc_f=true){r:Bool}(h:qJ s f=some r):XSpec Tryz.prog 255 [.vs s.length (F qr s),.fn (.func fk_f) [] fc_f] [] (B r) [] []:=by
  unfold qJ at h;refine zh Tryz.hU Tryz.func255 (fun _ _ _ hB=> ?_);refine z.B.b.g ?_;refine zo h (fun _=>slices_IndexFunc_Attr_ok (fun h=>hf_f h) hc_f) (fun v1 _ h=> ?_);refine z.k.b5.g ?_;apply zb [] hB h
theorem doc_named_ok {l:(List zd)}{n:Int}{r:Bool}(h:doc_named l n=some r):XSpec Tryz.prog 221 [.vs l.length (F zl l),I n] [] (B r) [] []:=by
  unfold doc_named at h;refine zh Tryz.hU Tryz.func221 (fun _ _ _ hB=> ?_);refine z.B.b.g ?_;refine QK h (fun v1 _ h=> ?_);refine z.a0.h.d4.e0.d9.g ?_;refine zo h (fun _=>doc_means_ok) (fun v2 _ h=> ?_);refine z.e8.b6.g ?_;refine Zq (fun q5=>(.normal,⟨[(0,.vs l.length (F zl l)),(1,I n),(5,.ptr 1005 0),(49,B q5)],[(1005,.box 48 [I v1.Kind,I v1.Parent,S v1.Prefix,S v1.Local,S v1.URI,S v1.Text,.vs v1.Decls.length (F zk v1.Decls),.vs v1.Attrs.length (F qr v1.Attrs)])],[]⟩)) h (fun t h=> ?_) (fun q5 h=> ?_)
  · refine z.f7.j.g ?_;refine zc h (fun _ h=> ?_) (fun _ h=> ?_)
    · refine z.S.j4.N.d8.g ?_;exact zp [(1005,1005)] hB h
    refine z.r.i2.n9.f.g ?_;refine zc h (fun _ h=> ?_) (fun _ h=> ?_)
    · refine z.S.j4.d8.g ?_;exact zp [(1005,1005)] hB h
    refine z.H.g ?_;refine zo h (fun _=>Qr) (fun v3 _ h=> ?_);refine z.r.W.g ?_;refine zc h (fun _ h=> ?_) (fun _ h=> ?_)
    · refine z.S.j4.n.g ?_;exact zp [(1005,1005)] hB h
    refine z.H.g ?_;refine zo h (fun _=>doc_prefix_ok) (fun v4 _ h=> ?_);refine l_to [(1005,1005)] ⟨[(0,.vs l.length (F zl l)),(1,I n),(5,.ptr 1005 0),(39,B false),(42,B v4)],[(1005,.box 48 [I v1.Kind,I v1.Parent,S v1.Prefix,S v1.Local,S v1.URI,S v1.Text,.vs v1.Decls.length (F zk v1.Decls),.vs v1.Attrs.length (F qr v1.Attrs)])],[]⟩ hB ?_;refine z.r.W.g ?_;refine zc h (fun _ h=> ?_) (fun _ h=> ?_)
    · refine z.S.i.g ?_;exact zp [(1005,1005)] hB h
    refine z.c3.i9.g ?_;exact zp [(1005,1005)] hB h
  refine f_t ?_;refine zn h (fun _ h=> ?_) (fun _ h=> ?_)
  · refine z.b4.g ?_;apply zb [] hB h
  refine z.e2.f9.e7.g ?_;refine zL (fun y6=>⟨[(0,.vs l.length (F zl l)),(1,I n),(5,.ptr 1005 0),(51,.vs v1.Attrs.length (F qr v1.Attrs)),(52,I (v1.Attrs.length:Int)),(53,I y6)],[(1005,.box 48 [I v1.Kind,I v1.Parent,S v1.Prefix,S v1.Local,S v1.URI,S v1.Text,.vs v1.Decls.length (F zk v1.Decls),.vs v1.Attrs.length (F qr v1.Attrs)])],[]⟩) (Sum.elim (fun q21=>(.ret,⟨[(4,B false)],[],[]⟩)) (fun q22=>(.exit 0,⟨[],[],[]⟩))) [(1005,1005)] hB h (fun y6 t h=> ?_) (fun q h=> ?_)
  · unfold Jj at h;refine z.b9.g ?_;refine zn h (fun _ h=> ?_) (fun _ h=> ?_)
    · refine z.a.E.g ?_;refine QK h (fun v7 _ h=> ?_);refine z.a0.h.d4.D.e0.d9.g ?_;refine zo h (fun _=>doc_means_ok) (fun v8 _ h=> ?_);refine z.e.b7.f9.J.b6.g ?_;refine zn h (fun _ h=> ?_) (fun _ h=> ?_)
      · refine z.c.f9.l.n4.g ?_;refine l_subf h (fun v9 _ h=> ?_);refine l_makeFunc ?_;refine l_callB h (fun _=>JF (fun h=>doc_named_c1_ok h) ⟨rfl,rfl⟩) (fun v10 _ h=> ?_);refine z.B.g ?_;refine zc h (fun _ h=> ?_) (fun _ h=> ?_)
        · refine z.e5.d8.N.j4.N.N.N.o.g ?_;exact zr [] hB h
        refine z.r.j3.f.g ?_;refine zc h (fun _ h=> ?_) (fun _ h=> ?_)
        · refine z.e5.d8.N.j4.N.d8.g ?_;exact zr [] hB h
        refine z.r.i2.n9.f.g ?_;refine zc h (fun _ h=> ?_) (fun _ h=> ?_)
        · refine z.e5.d8.N.j4.d8.g ?_;exact zr [] hB h
        refine z.H.g ?_;refine zo h (fun _=>Qr) (fun v11 _ h=> ?_);refine z.r.W.g ?_;refine zc h (fun _ h=> ?_) (fun _ h=> ?_)
        · refine z.e5.d8.N.j4.n.g ?_;exact zr [] hB h
        refine z.H.g ?_;refine zo h (fun _=>doc_prefix_ok) (fun v12 _ h=> ?_);refine l_to [(1005,1005),(1009,1009)] ⟨[(0,.vs l.length (F zl l)),(1,I n),(5,.ptr 1005 0),(9,.ptr 1009 0),(51,.vs v1.Attrs.length (F qr v1.Attrs)),(52,I (v1.Attrs.length:Int)),(53,I y6),(77,B v8.2),(78,B (!v8.2)),(81,S []),(82,.ptr 1009 2),(83,S v7.URI),(84,B (!([]==v7.URI))),(87,.ptr 1009 1),(88,S v7.Local),(89,B v11),(90,B (!v11)),(92,B false),(93,.ptr 1009 0),(94,S v7.Prefix),(95,B v12)],[(1005,.box 48 [I v1.Kind,I v1.Parent,S v1.Prefix,S v1.Local,S v1.URI,S v1.Text,.vs v1.Decls.length (F zk v1.Decls),.vs v1.Attrs.length (F qr v1.Attrs)]),(1009,.box 126 [S v7.Prefix,S v7.Local,S v7.URI,S v7.Value])],[]⟩ hB ?_;refine z.r.W.g ?_;refine zc h (fun _ h=> ?_) (fun _ h=> ?_)
        · refine z.e5.d8.N.i.g ?_;exact zr [] hB h
        refine z.r.i9.g ?_;refine zc h (fun _ h=> ?_) (fun _ h=> ?_)
        · refine z.e5.d8.n.g ?_;exact zr [] hB h
        refine z.s.i9.g ?_;refine zc h (fun _ h=> ?_) (fun _ h=> ?_)
        · refine z.r.i0.i9.g ?_;refine zc h (fun _ h=> ?_) (fun _ h=> ?_)
          · refine z.e5.n.g ?_;exact zr [] hB h
          refine z.H.g ?_;refine zo h (fun _=>Jb) (fun v13 _ h=> ?_);refine z.d7.W.g ?_;refine zn h (fun _ h=> ?_) (fun _ h=> ?_)
          · refine z.k2.g ?_;exact zr [] hB h
          refine z.d6.g ?_;exact zv [(1005,1005)] hB h
        refine z.H.r.i1.i.g ?_;refine zo h (fun _=>Jb) (fun v14 _ h=> ?_);refine z.d7.W.g ?_;refine zn h (fun _ h=> ?_) (fun _ h=> ?_)
        · refine z.k2.g ?_;exact zr [] hB h
        refine z.d6.g ?_;exact zv [(1005,1005)] hB h
      refine z.c.f9.L.g ?_;refine l_subf h (fun v15 _ h=> ?_);refine l_makeFunc ?_;refine l_callB h (fun _=>JF (fun h=>doc_named_c1_ok h) ⟨rfl,rfl⟩) (fun v16 _ h=> ?_);refine z.B.g ?_;refine zc h (fun _ h=> ?_) (fun _ h=> ?_)
      · refine z.e5.d8.N.j4.N.N.N.o.g ?_;exact zr [] hB h
      refine z.r.j3.f.g ?_;refine zc h (fun _ h=> ?_) (fun _ h=> ?_)
      · refine z.e5.d8.N.j4.N.d8.g ?_;exact zr [] hB h
      refine z.r.i2.n9.f.g ?_;refine zc h (fun _ h=> ?_) (fun _ h=> ?_)
      · refine z.e5.d8.N.j4.d8.g ?_;exact zr [] hB h
      refine z.H.g ?_;refine zo h (fun _=>Qr) (fun v17 _ h=> ?_);refine z.r.W.g ?_;refine zc h (fun _ h=> ?_) (fun _ h=> ?_)
      · refine z.e5.d8.N.j4.n.g ?_;exact zr [] hB h
      refine z.H.g ?_;refine zo h (fun _=>doc_prefix_ok) (fun v18 _ h=> ?_);refine l_to [(1005,1005),(1009,1009)] ⟨[(0,.vs l.length (F zl l)),(1,I n),(5,.ptr 1005 0),(9,.ptr 1009 0),(51,.vs v1.Attrs.length (F qr v1.Attrs)),(52,I (v1.Attrs.length:Int)),(53,I y6),(77,B v8.2),(78,B (!v8.2)),(81,S v8.1),(82,.ptr 1009 2),(83,S v7.URI),(84,B (!(v8.1==v7.URI))),(87,.ptr 1009 1),(88,S v7.Local),(89,B v17),(90,B (!v17)),(92,B false),(93,.ptr 1009 0),(94,S v7.Prefix),(95,B v18)],[(1005,.box 48 [I v1.Kind,I v1.Parent,S v1.Prefix,S v1.Local,S v1.URI,S v1.Text,.vs v1.Decls.length (F zk v1.Decls),.vs v1.Attrs.length (F qr v1.Attrs)]),(1009,.box 126 [S v7.Prefix,S v7.Local,S v7.URI,S v7.Value])],[]⟩ hB ?_;refine z.r.W.g ?_;refine zc h (fun _ h=> ?_) (fun _ h=> ?_)
      · refine z.e5.d8.N.i.g ?_;exact zr [] hB h
      refine z.r.i9.g ?_;refine zc h (fun _ h=> ?_) (fun _ h=> ?_)
      · refine z.e5.d8.n.g ?_;exact zr [] hB h
      refine z.s.i9.g ?_;refine zc h (fun _ h=> ?_) (fun _ h=> ?_)
      · refine z.r.i0.i9.g ?_;refine zc h (fun _ h=> ?_) (fun _ h=> ?_)
        · refine z.e5.n.g ?_;exact zr [] hB h
        refine z.H.g ?_;refine zo h (fun _=>Jb) (fun v19 _ h=> ?_);refine z.d7.W.g ?_;refine zn h (fun _ h=> ?_) (fun _ h=> ?_)
        · refine z.k2.g ?_;exact zr [] hB h
        refine z.d6.g ?_;exact zv [(1005,1005)] hB h
      refine z.H.r.i1.i.g ?_;refine zo h (fun _=>Jb) (fun v20 _ h=> ?_);refine z.d7.W.g ?_;refine zn h (fun _ h=> ?_) (fun _ h=> ?_)
      · refine z.k2.g ?_;exact zr [] hB h
      refine z.d6.g ?_;exact zv [(1005,1005)] hB h
    refine z.m.g ?_;exact zr [] hB h
  rcases q with q21|q22
  · dsimp only [Sum.elim] at h ⊢
    refine z.q.g ?_;apply zb [] hB h
  dsimp only [Sum.elim] at h ⊢
  refine z.Z.w.g ?_;apply zb [] hB h
theorem stringslite_HasSuffix_ok {s:Str}{suffix:Str}{r:Bool}(h:Qy s suffix=some r):XSpec Tryz.prog 257 [S s,S suffix] [] (B r) [] []:=by
  unfold Qy at h;refine zh Tryz.hU Tryz.func257 (fun _ _ _ hB=> ?_);refine z.u.a2.c.a2.a6.g ?_;refine zc h (fun _ h=> ?_) (fun _ h=> ?_)
  · refine z.a4.U.a4.a2.f.a2.f.s.g ?_;refine Zz h (fun v1 _ h=> ?_);refine z.a8.b7.f.g ?_;apply zb [] hB h
  refine z.c1.c2.n.n.g ?_;apply zb [] hB h
theorem strings_HasSuffix_ok {s:Str}{suffix:Str}{r:Bool}(h:QC s suffix=some r):XSpec Tryz.prog 223 [S s,S suffix] [] (B r) [] []:=by
  unfold QC at h;refine zh Tryz.hU Tryz.func223 (fun _ _ _ hB=> ?_);refine z.B.b.g ?_;refine zo h (fun _=>stringslite_HasSuffix_ok) (fun v1 _ h=> ?_);refine z.k.g ?_;apply zb [] hB h
theorem doc_target_ok {s:Str}{r:Bool}(h:zag s=some r):XSpec Tryz.prog 224 [S s] [] (B r) [] []:=by
  unfold zag at h;refine zh Tryz.hU Tryz.func224 (fun _ _ _ hB=> ?_);refine z.u.a2.a6.g ?_;refine zc h (fun _ h=> ?_) (fun _ h=> ?_)
  · refine z.f.g ?_;refine Qq h (fun v1 _ h=> ?_);refine z.s.c7.g ?_;refine zc h (fun _ h=> ?_) (fun _ h=> ?_)
    · refine z.f.b2.i0.i.g ?_;refine Qq h (fun v2 _ h=> ?_);refine z.s.c7.g ?_;refine zc h (fun _ h=> ?_) (fun _ h=> ?_)
      · refine z.f.b2.i0.i.g ?_;refine Qq h (fun v3 _ h=> ?_);refine z.s.c7.g ?_;refine zc h (fun _ h=> ?_) (fun _ h=> ?_)
        · refine z.a8.i0.i.g ?_;apply zb [] hB h
        refine z.f.g ?_;refine Qq h (fun v4 _ h=> ?_);refine z.a8.i1.c7.g ?_;apply zb [] hB h
      refine z.f.g ?_;refine Qq h (fun v5 _ h=> ?_);refine z.b2.i1.c7.g ?_;refine zc h (fun _ h=> ?_) (fun _ h=> ?_)
      · refine z.f.g ?_;refine Qq h (fun v6 _ h=> ?_);refine z.s.c7.g ?_;refine zc h (fun _ h=> ?_) (fun _ h=> ?_)
        · refine z.a8.i0.i.g ?_;apply zb [] hB h
        refine z.f.g ?_;refine Qq h (fun v7 _ h=> ?_);refine z.a8.i1.c7.g ?_;apply zb [] hB h
      refine z.c1.n.n.g ?_;apply zb [] hB h
    refine z.f.g ?_;refine Qq h (fun v8 _ h=> ?_);refine z.b2.i1.c7.g ?_;refine zc h (fun _ h=> ?_) (fun _ h=> ?_)
    · refine z.f.g ?_;refine Qq h (fun v9 _ h=> ?_);refine z.s.c7.g ?_;refine zc h (fun _ h=> ?_) (fun _ h=> ?_)
      · refine z.f.b2.i0.i.g ?_;refine Qq h (fun v10 _ h=> ?_);refine z.s.c7.g ?_;refine zc h (fun _ h=> ?_) (fun _ h=> ?_)
        · refine z.a8.i0.i.g ?_;apply zb [] hB h
        refine z.f.g ?_;refine Qq h (fun v11 _ h=> ?_);refine z.a8.i1.c7.g ?_;apply zb [] hB h
      refine z.f.g ?_;refine Qq h (fun v12 _ h=> ?_);refine z.b2.i1.c7.g ?_;refine zc h (fun _ h=> ?_) (fun _ h=> ?_)
      · refine z.f.g ?_;refine Qq h (fun v13 _ h=> ?_);refine z.s.c7.g ?_;refine zc h (fun _ h=> ?_) (fun _ h=> ?_)
        · refine z.a8.i0.i.g ?_;apply zb [] hB h
        refine z.f.g ?_;refine Qq h (fun v14 _ h=> ?_);refine z.a8.i1.c7.g ?_;apply zb [] hB h
      refine z.c1.n.n.g ?_;apply zb [] hB h
    refine z.c1.n.h6.n.n.g ?_;apply zb [] hB h
  refine z.c1.n.h6.n.h6.n.n.g ?_;apply zb [] hB h
end Go.Proofs.YtojbjdcflgeibaaGreatDoor
