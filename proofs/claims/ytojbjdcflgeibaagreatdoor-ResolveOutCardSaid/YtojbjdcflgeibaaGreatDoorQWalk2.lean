/-
  WALKS, printed by aw.py: that the program's functions compute the plain ones. Conditions: none.
-/
import Derived.Test.YtojbjdcflgeibaaGreatDoorQWalk1
set_option linter.unusedVariables false
set_option linter.unusedSimpArgs false
set_option maxRecDepth 20000
set_option maxHeartbeats 4000000
namespace Go.Proofs.YtojbjdcflgeibaaGreatDoor
open Go Go.Abs W G
theorem chars_number_ok {s:Str}{base:Int}{r:Int×Bool}(h:Q9 s base=some r):XSpec Tryz.prog 267 [S s,.pl (.int .i32 base)] [] (.tup [.pl (.int .i32 r.1),B r.2]) [] []:=by
  unfold Q9 at h;refine zc Tryz.hU Tryz.func267 (fun _ _ _ hB=> ?_);refine z.o7.V.f2.j.r.g ?_;refine zE (fun y1=>⟨[(0,S s),(1,.pl (.int .i32 base)),(6,.pl (.int .i32 y1.1)),(11,I (s.length:Int)),(12,I y1.2)],[],[]⟩) (Sum.elim (fun q5=>(.ret,⟨[(4,.pl (.int .i32 0)),(5,B false)],[],[]⟩)) (fun q6=>(.exit 0,⟨[(0,S s),(6,.pl (.int .i32 q6))],[],[]⟩))) [] hB h (fun y1 t h=> ?_) (fun q h=> ?_)
  · unfold z8 at h;refine z.b7.g ?_;refine zo h (fun _ h=> ?_) (fun _ h=> ?_)
    · refine z.q.b.D.g ?_;refine Z1 h (fun v2 _ h=> ?_);refine z.J.c5.b3.w.h5.g ?_;refine qS (fun q3=>(.normal,⟨[(0,S s),(1,.pl (.int .i32 base)),(6,.pl (.int .i32 y1.1)),(8,.pl (.int .i32 (w32 (v2.toNat:Int)))),(9,.pl (.int .i32 base)),(11,I (s.length:Int)),(12,I y1.2),(20,B q3)],[],[]⟩)) h (fun t h=> ?_) (fun q3 h=> ?_)
      · refine z.v.i.g ?_;refine zb h (fun _ h=> ?_) (fun _ h=> ?_)
        · refine z.G.d1.u.g ?_;exact zp [] hB h
        refine z.G.f1.g ?_;exact zp [] hB h
      refine f_t ?_;refine zo h (fun _ h=> ?_) (fun _ h=> ?_)
      · refine z.i8.f7.G.T.i.g ?_;refine zo h (fun _ h=> ?_) (fun _ h=> ?_)
        · refine z.a3.O.g ?_;exact zr [] hB h
        refine z.d5.G.o8.d6.a.m5.C.K.g ?_;exact zt [] hB h
      refine k_seq ?_;refine qS (fun q4=>(.normal,⟨[(0,S s),(1,.pl (.int .i32 base)),(6,.pl (.int .i32 y1.1)),(8,.pl (.int .i32 (w32 (v2.toNat:Int)))),(9,.pl (.int .i32 base)),(11,I (s.length:Int)),(12,I y1.2),(29,B q4)],[],[]⟩)) h (fun t h=> ?_) (fun q4 h=> ?_)
      · refine z.v.i.g ?_;refine zb h (fun _ h=> ?_) (fun _ h=> ?_)
        · refine z.G.d1.u.g ?_;exact zp [] hB h
        refine z.G.f1.g ?_;exact zp [] hB h
      refine f_t ?_;refine zo h (fun _ h=> ?_) (fun _ h=> ?_)
      · refine z.i8.f7.b9.T.i.g ?_;refine zo h (fun _ h=> ?_) (fun _ h=> ?_)
        · refine z.a3.O.g ?_;exact zr [] hB h
        refine z.d5.G.o8.d6.a.m5.C.K.g ?_;exact zt [] hB h
      refine z.v.b.g ?_;refine zb h (fun _ h=> ?_) (fun _ h=> ?_)
      · refine z.j.d1.u.g ?_;refine zo h (fun _ h=> ?_) (fun _ h=> ?_)
        · refine z.i8.f7.b9.T.i.g ?_;refine zo h (fun _ h=> ?_) (fun _ h=> ?_)
          · refine z.a3.O.g ?_;exact zr [] hB h
          refine z.d5.G.o8.d6.a.m5.C.K.g ?_;exact zt [] hB h
        refine z.i8.f7.X.g ?_;refine zo h (fun _ h=> ?_) (fun _ h=> ?_)
        · refine z.a3.O.g ?_;exact zr [] hB h
        refine z.d5.G.o8.d6.a.m5.C.K.g ?_;exact zt [] hB h
      refine z.i8.f7.X.i0.j.f1.g ?_;refine zo h (fun _ h=> ?_) (fun _ h=> ?_)
      · refine z.a3.O.g ?_;exact zr [] hB h
      refine z.d5.G.o8.d6.a.m5.C.K.g ?_;exact zt [] hB h
    refine z.k.g ?_;exact zr [] hB h
  rcases q with q5|q6
  · dsimp only [Sum.elim] at h ⊢
    refine z.a3.g ?_;apply za [] hB h
  dsimp only [Sum.elim] at h ⊢
  refine z.a0.i9.h.R.g ?_;apply za [] hB h
theorem utf8_ValidRune_ok {r_:Int}{r:Bool}(h:JL r_=some r):XSpec Tryz.prog 277 [.pl (.int .i32 r_)] [] (B r) [] []:=by
  unfold JL at h;refine zc Tryz.hU Tryz.func277 (fun _ _ _ hB=> ?_);refine z.v.b.c5.k0.g ?_;refine zb h (fun _ h=> ?_) (fun _ h=> ?_)
  · refine z.j.d1.u.g ?_;refine zo h (fun _ h=> ?_) (fun _ h=> ?_)
    · refine z.l1.g ?_;apply za [] hB h
    refine z.v.b.g ?_;refine zb h (fun _ h=> ?_) (fun _ h=> ?_)
    · refine z.j.d1.u.g ?_;refine zo h (fun _ h=> ?_) (fun _ h=> ?_)
      · refine z.l1.g ?_;apply za [] hB h
      refine z.b2.f7.X.g ?_;apply za [] hB h
    refine z.b2.f7.X.i0.j.f1.g ?_;apply za [] hB h
  refine z.v.b.i0.j.f1.g ?_;refine zb h (fun _ h=> ?_) (fun _ h=> ?_)
  · refine z.j.d1.u.g ?_;refine zo h (fun _ h=> ?_) (fun _ h=> ?_)
    · refine z.l1.g ?_;apply za [] hB h
    refine z.b2.f7.X.g ?_;apply za [] hB h
  refine z.b2.f7.X.i0.j.f1.g ?_;apply za [] hB h
theorem utf8_appendRuneNonASCII_ok {p:(List UInt8)}{r_:Int}{r:(List UInt8)}(h:ZK p r_=some r):XSpec Tryz.prog 285 [.sl 101 0 p.length,.pl (.int .i32 r_)] [(101,.row 5 1 0 (F cU p))] (.sl 101 0 r.length) [(101,.row 5 1 0 (F cU r))] [101]:=by
  unfold ZK at h;refine zc Tryz.hU Tryz.func285 (fun _ _ _ hB=> ?_);refine z.j.b4.b.j3.h5.a7.g ?_;refine zo h (fun _ h=> ?_) (fun _ h=> ?_)
  · refine z.h.g ?_;refine Qo (r:=(r_.fdiv (2^6))) ?_;refine z.k5.h9.a.h9.g ?_;refine Qq (e:=cU) [(u8 (bor 8 192 ((u8 (r_.fdiv (2^6))).toNat:Int))),(u8 (bor 8 128 ((u8 (band 8 ((u8 r_).toNat:Int) 63)).toNat:Int)))] ?_;refine QO h (fun v1 _ h=> ?_);refine z.B.l.g ?_;apply za [(101,101)] hB h
  refine z.j.b4.U.g ?_;refine zo h (fun _ h=> ?_) (fun _ h=> ?_)
  · refine z.K.g ?_;refine zo h (fun _ h=> ?_) (fun _ h=> ?_)
    · refine z.h.g ?_;refine Qo (r:=(r_.fdiv (2^12))) ?_;refine z.a.h9.g ?_;refine Qo (r:=(r_.fdiv (2^6))) ?_;refine z.k5.h9.a.k5.h9.g ?_;refine Qq (e:=cU) [(u8 (bor 8 224 ((u8 (r_.fdiv (2^12))).toNat:Int))),(u8 (bor 8 128 ((u8 (band 8 ((u8 (r_.fdiv (2^6))).toNat:Int) 63)).toNat:Int))),(u8 (bor 8 128 ((u8 (band 8 ((u8 r_).toNat:Int) 63)).toNat:Int)))] ?_;refine QO h (fun v2 _ h=> ?_);refine z.B.l.g ?_;apply za [(101,101)] hB h
    refine k_seq ?_;refine qS (fun q3=>(.normal,⟨[(0,.sl 101 0 p.length),(1,.pl (.int .i32 r_)),(50,B q3)],[(101,.row 5 1 0 (F cU p))],[]⟩)) h (fun t h=> ?_) (fun q3 h=> ?_)
    · refine z.v.i.g ?_;refine zb h (fun _ h=> ?_) (fun _ h=> ?_)
      · refine z.G.d1.u.g ?_;exact zp [(101,101)] hB h
      refine z.G.f1.g ?_;exact zp [(101,101)] hB h
    refine f_t ?_;refine zo h (fun _ h=> ?_) (fun _ h=> ?_)
    · refine z.h.g ?_;refine Qo (r:=(r_.fdiv (2^18))) ?_;refine z.a.h9.g ?_;refine Qo (r:=(r_.fdiv (2^12))) ?_;refine z.a.k5.h9.g ?_;refine Qo (r:=(r_.fdiv (2^6))) ?_;refine z.k5.h9.a.k5.h9.g ?_;refine Qq (e:=cU) [(u8 (bor 8 240 ((u8 (r_.fdiv (2^18))).toNat:Int))),(u8 (bor 8 128 ((u8 (band 8 ((u8 (r_.fdiv (2^12))).toNat:Int) 63)).toNat:Int))),(u8 (bor 8 128 ((u8 (band 8 ((u8 (r_.fdiv (2^6))).toNat:Int) 63)).toNat:Int))),(u8 (bor 8 128 ((u8 (band 8 ((u8 r_).toNat:Int) 63)).toNat:Int)))] ?_;refine QO h (fun v4 _ h=> ?_);refine z.B.l.g ?_;apply za [(101,101)] hB h
    refine z.b.g ?_;refine Qq (e:=cU) [239,191,189] ?_;refine QO h (fun v5 _ h=> ?_);refine z.B.l.g ?_;apply za [(101,101)] hB h
  refine z.v.i.g ?_;refine zb h (fun _ h=> ?_) (fun _ h=> ?_)
  · refine z.j.d1.u.g ?_;refine zo h (fun _ h=> ?_) (fun _ h=> ?_)
    · refine z.h.g ?_;refine Qo (r:=(r_.fdiv (2^12))) ?_;refine z.a.h9.g ?_;refine Qo (r:=(r_.fdiv (2^6))) ?_;refine z.k5.h9.a.k5.h9.g ?_;refine Qq (e:=cU) [(u8 (bor 8 224 ((u8 (r_.fdiv (2^12))).toNat:Int))),(u8 (bor 8 128 ((u8 (band 8 ((u8 (r_.fdiv (2^6))).toNat:Int) 63)).toNat:Int))),(u8 (bor 8 128 ((u8 (band 8 ((u8 r_).toNat:Int) 63)).toNat:Int)))] ?_;refine QO h (fun v6 _ h=> ?_);refine z.B.l.g ?_;apply za [(101,101)] hB h
    refine k_seq ?_;refine qS (fun q7=>(.normal,⟨[(0,.sl 101 0 p.length),(1,.pl (.int .i32 r_)),(50,B q7)],[(101,.row 5 1 0 (F cU p))],[]⟩)) h (fun t h=> ?_) (fun q7 h=> ?_)
    · refine z.v.i.g ?_;refine zb h (fun _ h=> ?_) (fun _ h=> ?_)
      · refine z.G.d1.u.g ?_;exact zp [(101,101)] hB h
      refine z.G.f1.g ?_;exact zp [(101,101)] hB h
    refine f_t ?_;refine zo h (fun _ h=> ?_) (fun _ h=> ?_)
    · refine z.h.g ?_;refine Qo (r:=(r_.fdiv (2^18))) ?_;refine z.a.h9.g ?_;refine Qo (r:=(r_.fdiv (2^12))) ?_;refine z.a.k5.h9.g ?_;refine Qo (r:=(r_.fdiv (2^6))) ?_;refine z.k5.h9.a.k5.h9.g ?_;refine Qq (e:=cU) [(u8 (bor 8 240 ((u8 (r_.fdiv (2^18))).toNat:Int))),(u8 (bor 8 128 ((u8 (band 8 ((u8 (r_.fdiv (2^12))).toNat:Int) 63)).toNat:Int))),(u8 (bor 8 128 ((u8 (band 8 ((u8 (r_.fdiv (2^6))).toNat:Int) 63)).toNat:Int))),(u8 (bor 8 128 ((u8 (band 8 ((u8 r_).toNat:Int) 63)).toNat:Int)))] ?_;refine QO h (fun v8 _ h=> ?_);refine z.B.l.g ?_;apply za [(101,101)] hB h
    refine z.b.g ?_;refine Qq (e:=cU) [239,191,189] ?_;refine QO h (fun v9 _ h=> ?_);refine z.B.l.g ?_;apply za [(101,101)] hB h
  refine z.J.i0.j.f1.g ?_;refine qS (fun q10=>(.normal,⟨[(0,.sl 101 0 p.length),(1,.pl (.int .i32 r_)),(50,B q10)],[(101,.row 5 1 0 (F cU p))],[]⟩)) h (fun t h=> ?_) (fun q10 h=> ?_)
  · refine z.v.i.g ?_;refine zb h (fun _ h=> ?_) (fun _ h=> ?_)
    · refine z.G.d1.u.g ?_;exact zp [(101,101)] hB h
    refine z.G.f1.g ?_;exact zp [(101,101)] hB h
  refine f_t ?_;refine zo h (fun _ h=> ?_) (fun _ h=> ?_)
  · refine z.h.g ?_;refine Qo (r:=(r_.fdiv (2^18))) ?_;refine z.a.h9.g ?_;refine Qo (r:=(r_.fdiv (2^12))) ?_;refine z.a.k5.h9.g ?_;refine Qo (r:=(r_.fdiv (2^6))) ?_;refine z.k5.h9.a.k5.h9.g ?_;refine Qq (e:=cU) [(u8 (bor 8 240 ((u8 (r_.fdiv (2^18))).toNat:Int))),(u8 (bor 8 128 ((u8 (band 8 ((u8 (r_.fdiv (2^12))).toNat:Int) 63)).toNat:Int))),(u8 (bor 8 128 ((u8 (band 8 ((u8 (r_.fdiv (2^6))).toNat:Int) 63)).toNat:Int))),(u8 (bor 8 128 ((u8 (band 8 ((u8 r_).toNat:Int) 63)).toNat:Int)))] ?_;refine QO h (fun v11 _ h=> ?_);refine z.B.l.g ?_;apply za [(101,101)] hB h
  refine z.b.g ?_;refine Qq (e:=cU) [239,191,189] ?_;refine QO h (fun v12 _ h=> ?_);refine z.B.l.g ?_;apply za [(101,101)] hB h
theorem utf8_AppendRune_ok {p:(List UInt8)}{r_:Int}{r:(List UInt8)}(h:Jk p r_=some r):XSpec Tryz.prog 278 [.sl 101 0 p.length,.pl (.int .i32 r_)] [(101,.row 5 1 0 (F cU p))] (.sl 101 0 r.length) [(101,.row 5 1 0 (F cU r))] [101]:=by
  unfold Jk at h;refine zc Tryz.hU Tryz.func278 (fun _ _ _ hB=> ?_);refine z.t.h5.f2.g ?_;refine zo h (fun _ h=> ?_) (fun _ h=> ?_)
  · refine z.p9.h.g ?_;refine Qq (e:=cU) [(u8 r_)] ?_;refine QO h (fun v1 _ h=> ?_);refine z.m2.g ?_;apply za [(101,101)] hB h
  refine z.f3.g ?_;refine zh [] [101] h (fun _=>utf8_appendRuneNonASCII_ok) (fun v2 _ h=> ?_);refine z.l.g ?_;apply za [(101,101)] hB h
theorem utf_Bytes_ok {l:(List Int)}{r:(List UInt8)×Bool}(h:utf_Bytes l=some r):XSpec Tryz.prog 268 [.vs l.length (F cR l)] [] (.tup [.sl 1 0 r.1.length,B r.2]) [(1,.row 5 1 0 (F cU r.1))] []:=by
  unfold utf_Bytes at h;refine zc Tryz.hU Tryz.func268 (fun _ _ _ hB=> ?_);refine z.f0.f2.j.r.g ?_;refine k_nilrow (te:=5) (t:=4) 3004 1 ?_;refine zE (fun y1=>⟨[(4,.sl 3004 0 y1.2.length),(7,.vs l.length (F cR l)),(8,I (l.length:Int)),(9,I y1.1)],[(3004,.row 5 1 0 (F cU y1.2))],[]⟩) (Sum.elim (fun q5=>(.ret,⟨[(2,.pl (.slice none 0 0)),(3,B false)],[],[]⟩)) (fun q6=>(.exit 0,⟨[(4,.sl 3004 0 q6.length)],[(3004,.row 5 1 0 (F cU q6))],[]⟩))) [(3004,3004)] hB h (fun y1 t h=> ?_) (fun q h=> ?_)
  · unfold utf_Bytes_b1 at h;refine z.b7.g ?_;refine zo h (fun _ h=> ?_) (fun _ h=> ?_)
    · refine z.c.D.g ?_;refine Ql h (fun v2 _ h=> ?_);refine z.I.l0.g ?_;refine zm h (fun _=>utf8_ValidRune_ok) (fun v3 _ h=> ?_);refine z.d0.g ?_;refine zo h (fun _ h=> ?_) (fun _ h=> ?_)
      · refine z.a3.O.g ?_;exact zr [] hB h
      refine z.C.K.g ?_;refine zh [(101,3004)] [3004] h (fun _=>utf8_AppendRune_ok) (fun v4 _ h=> ?_);refine z.d5.G.g ?_;exact zt [(3004,3004)] hB h
    refine z.k.g ?_;exact zr [(3004,3004)] hB h
  rcases q with q5|q6
  · dsimp only [Sum.elim] at h ⊢
    refine z.a3.g ?_;refine f_nilrow (te:=5) (t:=2) 3002 1 ?_;apply za [(3002,1)] hB h
  dsimp only [Sum.elim] at h ⊢
  refine z.a0.j4.g ?_;apply za [(3004,1)] hB h
theorem J4 {s:Str}{r:Str×Bool}(h:Qs s=some r):XSpec Tryz.prog 250 [S s] [] (.tup [S r.1,B r.2]) [] []:=by
  unfold Qs at h;refine zc Tryz.hU Tryz.func250 (fun _ _ _ hB=> ?_);refine z.w.r.g ?_;refine zm h (fun _=>ZE) (fun v1 _ h=> ?_);refine z.d0.I.P.g ?_;refine zo h (fun _ h=> ?_) (fun _ h=> ?_)
  · refine z.b.g ?_;refine zm h (fun _=>chars_named_ok) (fun v2 _ h=> ?_);refine z.e3.m8.g ?_;apply za [] hB h
  refine z.f2.K.g ?_;refine zm h (fun _=>ZE) (fun v3 _ h=> ?_);refine z.e.w.P.g ?_;refine zo h (fun _ h=> ?_) (fun _ h=> ?_)
  · refine z.q.A.i.g ?_;refine zm h (fun _=>chars_number_ok) (fun v4 _ h=> ?_);refine z.f6.I.P.g ?_;refine zb h (fun _ h=> ?_) (fun _ h=> ?_)
    · refine z.O.i5.o.g ?_;apply za [] hB h
    refine z.f.g ?_;refine zm h (fun _=>utf_Xml_ok) (fun v5 _ h=> ?_);refine z.d4.Y.g ?_;refine zo h (fun _ h=> ?_) (fun _ h=> ?_)
    · refine z.O.g ?_;apply za [] hB h
    refine z.y.g ?_;refine Qq (e:=cR) [v4.1] ?_;refine l_frz 1044 ?_;refine zh [(1,104501)] [] h (fun _=>utf_Bytes_ok) (fun v6 _ h=> ?_);refine z.a0.a.p5.w.P.g ?_;apply za [] hB h
  refine z.f3.g ?_;refine zm h (fun _=>chars_number_ok) (fun v7 _ h=> ?_);refine z.f6.I.P.g ?_;refine zb h (fun _ h=> ?_) (fun _ h=> ?_)
  · refine z.O.i5.o.g ?_;apply za [] hB h
  refine z.f.g ?_;refine zm h (fun _=>utf_Xml_ok) (fun v8 _ h=> ?_);refine z.d4.Y.g ?_;refine zo h (fun _ h=> ?_) (fun _ h=> ?_)
  · refine z.O.g ?_;apply za [] hB h
  refine z.y.g ?_;refine Qq (e:=cR) [v7.1] ?_;refine l_frz 1044 ?_;refine zh [(1,104501)] [] h (fun _=>utf_Bytes_ok) (fun v9 _ h=> ?_);refine z.a0.a.p5.w.P.g ?_;apply za [] hB h
theorem chars_expand_ok {s:Str}{plain:(Str→Option Str)}{fk_plain:Nat}{fc_plain:List AV}(hf_plain: ∀ {x0:Str} {r:Str},plain x0=some r→XSpec Tryz.prog fk_plain ((S x0)::fc_plain) [] (S r) [] [])(hc_plain:AV.closedL fc_plain=true∧AV.onlyL [] fc_plain=true){r:Str×Bool}(h:chars_expand s plain=some r):XSpec Tryz.prog 218 [S s,.fn (.func fk_plain) [] fc_plain] [] (.tup [S r.1,B r.2]) [] []:=by
  unfold chars_expand at h;refine zc Tryz.hU Tryz.func218 (fun _ _ _ hB=> ?_);refine z.f8.r.g ?_;refine qS (fun q3=>(.normal,⟨[(0,S s),(1,.fn (.func fk_plain) [] fc_plain),(22,B q3)],[],[]⟩)) h (fun t h=> ?_) (fun q3 h=> ?_)
  · refine z.o2.i.g ?_;refine l_callB h (fun _=>utf_Text_ok) (fun v1 _ h=> ?_);refine z.f6.g ?_;refine zb h (fun _ h=> ?_) (fun _ h=> ?_)
    · refine z.M.m.g ?_;exact zp [] hB h
    refine z.f.g ?_;refine zm h (fun _=>Zi) (fun v2 _ h=> ?_);refine l_to [] ⟨[(0,S s),(1,.fn (.func fk_plain) [] fc_plain),(19,B false),(21,B v2)],[],[]⟩ hB ?_;refine z.c3.g ?_;exact zp [] hB h
  refine f_t ?_;refine zo h (fun _ h=> ?_) (fun _ h=> ?_)
  · refine z.O.g ?_;apply za [] hB h
  refine z.l9.e9.c.K.g ?_;refine k_npcell (b:=1006) (j:=0) 1006 0 ?_;refine zE (Sum.elim (fun (y4:Unit)=>⟨[(0,S s),(1,.fn (.func fk_plain) [] fc_plain),(6,.ptr 1006 0)],[(1006,.box 102 [.nptr true 1006 0,.pl (.slice none 0 0)])],[]⟩) (fun (y4:Str×(List UInt8))=>⟨[(0,S y4.1),(1,.fn (.func fk_plain) [] fc_plain),(6,.ptr 1006 0)],[(1006,.box 102 [.nptr false 1006 0,.sl 13061 0 y4.2.length]),(13061,.row 5 1 0 (F cU y4.2))],[13061]⟩)) (fun q19=>(.ret,⟨[(4,S q19.1),(5,B q19.2)],[],[13061]⟩)) [(1006,1006)] hB h (fun y4 t h=> ?_) (fun q19 h=> ?_)
  · unfold qo at h
    rcases y4 with y4|y4
    · dsimp only [Sum.elim] at h ⊢
      refine z.b.c5.g ?_;refine zm h (fun _=>qM) (fun v5 _ h=> ?_);refine z.q.A.k3.k4.g ?_;refine l_callF hc_plain h (fun _=>hf_plain) (fun v6 _ h=> ?_);refine l_nilcell (te:=5) (b1:=1006) (j:=1) 13061 1 ?_;refine zh [(4000101,1006),(4000102,13061)] [1006,13061] h (fun _=>zi) (fun v7 _ h=> ?_);refine z.d0.U.e.g ?_;refine zo h (fun _ h=> ?_) (fun _ h=> ?_)
      · refine z.c.g ?_;refine zh [(6000101,1006),(6000102,13061)] [1006,13061] h (fun _=>zK) (fun v8 _ h=> ?_);refine z.B.e3.g ?_;exact zr [] hB h
      refine z.y.g ?_;refine zm h (fun _=>qM) (fun v9 _ h=> ?_);refine z.w.A.k3.k4.g ?_;refine zm h (fun _=>J4) (fun v10 _ h=> ?_);refine z.f6.I.P.g ?_;refine zb h (fun _ h=> ?_) (fun _ h=> ?_)
      · refine z.B.O.i5.m.g ?_;exact zr [] hB h
      refine z.d4.j8.f.g ?_;refine zo h (fun _ h=> ?_) (fun _ h=> ?_)
      · refine z.B.O.g ?_;exact zr [] hB h
      refine z.y.g ?_;refine zh [(4000101,1006),(4000102,13061)] [1006,13061] h (fun _=>zi) (fun v11 _ h=> ?_);refine z.i6.i.e.g ?_;exact zt [(1006,1006),(13061,13061)] hB h
    dsimp only [Sum.elim] at h ⊢
    refine z.b.c5.g ?_;refine zm h (fun _=>qM) (fun v12 _ h=> ?_);refine z.q.A.k3.k4.g ?_;refine l_callF hc_plain h (fun _=>hf_plain) (fun v13 _ h=> ?_);refine zh [(4000101,1006),(4000102,13061)] [1006,13061] h (fun _=>zi) (fun v14 _ h=> ?_);refine z.d0.U.e.g ?_;refine zo h (fun _ h=> ?_) (fun _ h=> ?_)
    · refine z.c.g ?_;refine zh [(6000101,1006),(6000102,13061)] [1006,13061] h (fun _=>zK) (fun v15 _ h=> ?_);refine z.B.e3.g ?_;exact zr [] hB h
    refine z.y.g ?_;refine zm h (fun _=>qM) (fun v16 _ h=> ?_);refine z.w.A.k3.k4.g ?_;refine zm h (fun _=>J4) (fun v17 _ h=> ?_);refine z.f6.I.P.g ?_;refine zb h (fun _ h=> ?_) (fun _ h=> ?_)
    · refine z.B.O.i5.m.g ?_;exact zr [] hB h
    refine z.d4.j8.f.g ?_;refine zo h (fun _ h=> ?_) (fun _ h=> ?_)
    · refine z.B.O.g ?_;exact zr [] hB h
    refine z.y.g ?_;refine zh [(4000101,1006),(4000102,13061)] [1006,13061] h (fun _=>zi) (fun v18 _ h=> ?_);refine z.i6.i.e.g ?_;exact zt [(1006,1006),(13061,13061)] hB h
  refine f_br ?_;apply za [] hB h
theorem strings_NewReplacer_s1_ok {u1:(List Str)}{r:(List Str)}(h:Zf u1=some r):XSpec Tryz.prog 247 [.sl 7000101 0 u1.length] [(7000101,.row 9 1 0 (F cS u1))] (.ptr 7000151 0) [(7000101,.row 9 1 0 (F cS u1)),(7000151,.box 260 [.pl (.int .u32 0),.pl (.int .i32 0),.pl (.int .u32 0),.pl .nilIface,.sl 7000152 0 r.length]),(7000152,.row 9 1 0 (F cS r))] []:=by
  unfold Zf at h;refine zc Tryz.hU Tryz.func247 (fun _ _ _ hB=> ?_);refine z.t.s5.Q.f2.g ?_;refine zo h (fun _ h=> ?_) (fun _ h=> ?_)
  · refine k_reg ?_
    cases h
  refine z.y.g ?_;refine l_appc h (fun v1 _ h=> ?_);refine z.l.l2.k6.g ?_;apply za [(7000101,7000101),(1011,7000151),(1009,7000152)] hB h
theorem atomic_Bool_Load_s1_ok {u1:(List Str)}{r:Unit}(h:QK u1=some r):XSpec Tryz.prog 274 [.ptr 11000101 0] [(11000101,.box 260 [.pl (.int .u32 0),.pl (.int .i32 0),.pl (.int .u32 0),.pl .nilIface,.sl 11000102 0 u1.length]),(11000102,.row 9 1 0 (F cS u1))] (B false) [(11000101,.box 260 [.pl (.int .u32 0),.pl (.int .i32 0),.pl (.int .u32 0),.pl .nilIface,.sl 11000102 0 u1.length]),(11000102,.row 9 1 0 (F cS u1))] []:=by
  unfold QK at h;refine zc Tryz.hU Tryz.func274 (fun _ _ _ hB=> ?_);refine z.c1.a7.g ?_;refine l_aload Tryz.func279 ?_;refine z.l.b4.g ?_;apply za [(11000101,11000101),(11000102,11000102)] hB h
theorem sync_Mutex_Lock_s1_ok {u1:(List Str)}{r:Unit}(h:Ja u1=some r):XSpec Tryz.prog 286 [.ptr 14000101 1] [(14000101,.box 260 [.pl (.int .u32 0),.pl (.int .i32 0),.pl (.int .u32 0),.pl .nilIface,.sl 14000102 0 u1.length]),(14000102,.row 9 1 0 (F cS u1))] (.tup []) [(14000101,.box 260 [.pl (.int .u32 0),.pl (.int .i32 1),.pl (.int .u32 0),.pl .nilIface,.sl 14000102 0 u1.length]),(14000102,.row 9 1 0 (F cS u1))] []:=by
  unfold Ja at h;refine zc Tryz.hU Tryz.func286 (fun _ _ _ hB=> ?_);refine z.c.g ?_;refine l_nat (race0_spec Tryz.func292) ?_;refine z.c1.U.e.g ?_;refine l_acas Tryz.func293 ?_;refine z.c.e2.J.e2.e.g ?_;refine l_nat (race0_spec Tryz.func294) ?_;refine z.o6.i.e.g ?_;refine l_nat (race1_spec Tryz.func295 14000101 1) ?_;refine z.n5.l5.e.g ?_;apply za [(14000101,14000101),(14000102,14000102)] hB h
theorem sync_Mutex_Lock_2_s1_ok {u1:(List Str)}{r:Unit}(h:Qv u1=some r):XSpec Tryz.prog 280 [.ptr 13000101 1] [(13000101,.box 260 [.pl (.int .u32 0),.pl (.int .i32 0),.pl (.int .u32 0),.pl .nilIface,.sl 13000102 0 u1.length]),(13000102,.row 9 1 0 (F cS u1))] (.tup []) [(13000101,.box 260 [.pl (.int .u32 0),.pl (.int .i32 1),.pl (.int .u32 0),.pl .nilIface,.sl 13000102 0 u1.length]),(13000102,.row 9 1 0 (F cS u1))] []:=by
  unfold Qv at h;refine zc Tryz.hU Tryz.func280 (fun _ _ _ hB=> ?_);refine z.c1.i.g ?_;refine zh [(14000101,13000101),(14000102,13000102)] [13000101,13000102] h (fun _=>sync_Mutex_Lock_s1_ok) (fun v1 _ h=> ?_);refine k_nil ?_;apply za [(13000101,13000101),(13000102,13000102)] hB h
theorem atomic_Bool_Load_s2_ok {u1:(List Str)}{r:Unit}(h:QG u1=some r):XSpec Tryz.prog 274 [.ptr 15000101 0] [(15000101,.box 260 [.pl (.int .u32 0),.pl (.int .i32 1),.pl (.int .u32 0),.pl .nilIface,.sl 15000102 0 u1.length]),(15000102,.row 9 1 0 (F cS u1))] (B false) [(15000101,.box 260 [.pl (.int .u32 0),.pl (.int .i32 1),.pl (.int .u32 0),.pl .nilIface,.sl 15000102 0 u1.length]),(15000102,.row 9 1 0 (F cS u1))] []:=by
  unfold QG at h;refine zc Tryz.hU Tryz.func274 (fun _ _ _ hB=> ?_);refine z.c1.a7.g ?_;refine l_aload Tryz.func279 ?_;refine z.l.b4.g ?_;apply za [(15000101,15000101),(15000102,15000102)] hB h
theorem strings_Replacer_build_s1_ok {u1:(List Str)}{r:(List UInt8)}(h:qD u1=some r):XSpec Tryz.prog 276 [.ptr 17000101 0] [(17000101,.box 260 [.pl (.int .u32 0),.pl (.int .i32 1),.pl (.int .u32 0),.pl .nilIface,.sl 17000102 0 u1.length]),(17000102,.row 9 1 0 (F cS u1))] (.ifc 283 (.ptr 17000151 0)) [(17000101,.box 260 [.pl (.int .u32 0),.pl (.int .i32 1),.pl (.int .u32 0),.pl .nilIface,.sl 17000102 0 u1.length]),(17000102,.row 9 1 0 (F cS u1)),(17000151,.row 282 1 0 (F cU r))] []:=by
  unfold qD at h;refine zc Tryz.hU Tryz.func276 (fun _ _ _ hB=> ?_);refine z.f8.a8.a7.g ?_;refine qS (fun q2=>(.normal,⟨[(3,.sl 17000102 0 u1.length),(28,B q2)],[(17000101,.box 260 [.pl (.int .u32 0),.pl (.int .i32 1),.pl (.int .u32 0),.pl .nilIface,.sl 17000102 0 u1.length]),(17000102,.row 9 1 0 (F cS u1))],[]⟩)) h (fun t h=> ?_) (fun q2 h=> ?_)
  · refine z.v.Q.i.g ?_;refine zb h (fun _ h=> ?_) (fun _ h=> ?_)
    · refine z.f.g ?_;refine Q5 h (fun v1 ev1 h=> ?_);refine l_on ?_;refine QN ev1 ?_;refine z.M.c6.V.b6.g ?_;exact zp [(17000101,17000101),(17000102,17000102)] hB h
    refine z.c3.c2.n.g ?_;exact zp [(17000101,17000101),(17000102,17000102)] hB h
  refine f_t ?_;refine zo h (fun _ h=> ?_) (fun _ h=> ?_)
  · refine k_seq ?_;refine Zr [] (.q 0 (.q 1 (.q 2 (.q 3 (.q 4 (.q 5 (.e 6 (.q 7 (.q 8 (.done)))))))))) hm ?_;refine z.L.g ?_
    cases h
  refine z.j3.c.k0.K.g ?_;refine zE (fun y5=>⟨[(3,.sl 17000102 0 u1.length),(4,B y5.1),(5,I y5.2)],[(17000101,.box 260 [.pl (.int .u32 0),.pl (.int .i32 1),.pl (.int .u32 0),.pl .nilIface,.sl 17000102 0 u1.length]),(17000102,.row 9 1 0 (F cS u1))],[]⟩) (fun q8=>(.exit 0,⟨[(3,.sl 17000102 0 u1.length),(4,B q8)],[(17000101,.box 260 [.pl (.int .u32 0),.pl (.int .i32 1),.pl (.int .u32 0),.pl .nilIface,.sl 17000102 0 u1.length]),(17000102,.row 9 1 0 (F cS u1))],[]⟩)) [(17000101,17000101),(17000102,17000102)] hB h (fun y5 t h=> ?_) (fun q8 h=> ?_)
  · unfold ZO at h;refine z.t.Q.m0.g ?_;refine zo h (fun _ h=> ?_) (fun _ h=> ?_)
    · refine z.m0.D.g ?_;refine Q5 h (fun v6 ev6 h=> ?_);refine QN ev6 ?_;refine z.t.V.g ?_;refine zo h (fun _ h=> ?_) (fun _ h=> ?_)
      · refine z.b.g ?_
        cases h
      refine z.d6.f3.g ?_;refine Q5 h (fun v7 ev7 h=> ?_);refine QN ev7 ?_;refine z.t.V.g ?_;refine zo h (fun _ h=> ?_) (fun _ h=> ?_)
      · refine z.b9.d8.G.n9.g ?_;exact zt [(17000101,17000101),(17000102,17000102)] hB h
      refine z.b9.d8.X.g ?_;exact zt [(17000101,17000101),(17000102,17000102)] hB h
    refine z.k.g ?_;exact zr [(17000101,17000101),(17000102,17000102)] hB h
  refine z.e.U.R.g ?_;refine zo h (fun _ h=> ?_) (fun _ h=> ?_)
  · refine z.c.g ?_;refine l_anew 256 ?_;refine z.l9.U.e.g ?_;refine zE (fun y9=>⟨[(3,.sl 17000102 0 u1.length),(6,.ptr 1006 0),(61,I y9.1)],[(17000101,.box 260 [.pl (.int .u32 0),.pl (.int .i32 1),.pl (.int .u32 0),.pl .nilIface,.sl 17000102 0 u1.length]),(17000102,.row 9 1 0 (F cS u1)),(1006,.row 282 1 0 (F cU y9.2))],[]⟩) (fun q12=>(.exit 2,⟨[(3,.sl 17000102 0 u1.length),(6,.ptr 1006 0)],[(17000101,.box 260 [.pl (.int .u32 0),.pl (.int .i32 1),.pl (.int .u32 0),.pl .nilIface,.sl 17000102 0 u1.length]),(17000102,.row 9 1 0 (F cS u1)),(1006,.row 282 1 0 (F cU q12))],[]⟩)) [(17000101,17000101),(17000102,17000102),(1006,1006)] hB h (fun y9 t h=> ?_) (fun q12 h=> ?_)
    · unfold ZS at h;refine z.b7.g ?_;refine zo h (fun _ h=> ?_) (fun _ h=> ?_)
      · refine z.p9.C.j.b.D.g ?_;refine l_aidx h (fun v10 ev10 h=> ?_);refine l_put0 ev10 h (fun v11 ev11 h=> ?_);refine z.d5.d2.g ?_;exact zt [(17000101,17000101),(17000102,17000102),(1006,1006)] hB h
      refine z.k.g ?_;exact zr [(17000101,17000101),(17000102,17000102),(1006,1006)] hB h
    refine z.j3.T.Q.U.R.g ?_;refine zE (fun y13=>⟨[(3,.sl 17000102 0 u1.length),(6,.ptr 1006 0),(8,I y13.1)],[(17000101,.box 260 [.pl (.int .u32 0),.pl (.int .i32 1),.pl (.int .u32 0),.pl .nilIface,.sl 17000102 0 u1.length]),(17000102,.row 9 1 0 (F cS u1)),(1006,.row 282 1 0 (F cU y13.2))],[]⟩) (fun q20=>(.exit 4,⟨[(6,.ptr 1006 0)],[(17000101,.box 260 [.pl (.int .u32 0),.pl (.int .i32 1),.pl (.int .u32 0),.pl .nilIface,.sl 17000102 0 u1.length]),(17000102,.row 9 1 0 (F cS u1)),(1006,.row 282 1 0 (F cU q20))],[]⟩)) [(17000101,17000101),(17000102,17000102),(1006,1006)] hB h (fun y13 t h=> ?_) (fun q20 h=> ?_)
    · unfold ZM at h;refine z.t.U.g ?_;refine zo h (fun _ h=> ?_) (fun _ h=> ?_)
      · refine z.h.D.g ?_;refine Q5 h (fun v14 ev14 h=> ?_);refine QN ev14 ?_;refine Z1 h (fun v15 _ h=> ?_);refine z.d6.q.g ?_;refine Q5 h (fun v16 ev16 h=> ?_);refine QN ev16 ?_;refine Z1 h (fun v17 _ h=> ?_);refine z.C.j.g ?_;refine l_aidx h (fun v18 ev18 h=> ?_);refine l_put0 ev18 h (fun v19 ev19 h=> ?_);refine z.G.T.d8.d2.g ?_;exact zt [(17000101,17000101),(17000102,17000102),(1006,1006)] hB h
      refine z.k.g ?_;exact zr [(17000101,17000101),(17000102,17000102),(1006,1006)] hB h
    refine z.m2.s6.c.R.g ?_;apply za [(17000101,17000101),(17000102,17000102),(1006,17000151)] hB h
  refine z.s7.Q.y.g ?_
  cases h
theorem strings_Replacer_buildOnce_s1_ok {u1:(List Str)}{r:(List UInt8)}(h:qG u1=some r):XSpec Tryz.prog 265 [.ptr 16000101 0] [(16000101,.box 260 [.pl (.int .u32 0),.pl (.int .i32 1),.pl (.int .u32 0),.pl .nilIface,.sl 16000102 0 u1.length]),(16000102,.row 9 1 0 (F cS u1))] (.tup []) [(16000101,.box 260 [.pl (.int .u32 0),.pl (.int .i32 1),.pl (.int .u32 0),.ifc 283 (.ptr 16000151 0),.pl (.slice none 0 0)]),(16000102,.row 9 1 0 (F cS u1)),(16000151,.row 282 1 0 (F cU r))] []:=by
  unfold qG at h;refine zc Tryz.hU Tryz.func265 (fun _ _ _ hB=> ?_);refine z.h.g ?_;refine zh [(17000101,16000101),(17000102,16000102),(17000151,100451)] [16000101,16000102] h (fun _=>strings_Replacer_build_s1_ok) (fun v1 _ h=> ?_);refine z.d2.m7.c1.i.k2.g ?_;apply za [(16000101,16000101),(16000102,16000102),(100451,16000151)] hB h
theorem atomic_Bool_Store_s1_ok {u1:(List UInt8)}{r:Unit}(h:JK u1=some r):DSpec Tryz.prog 282 [.ptr 12000101 0,B true] [(12000101,.box 260 [.pl (.int .u32 0),.pl (.int .i32 1),.pl (.int .u32 0),.ifc 283 (.ptr 102051 0),.pl (.slice none 0 0)]),(102051,.row 282 1 0 (F cU u1))] (.tup []) [(12000101,.box 260 [.pl (.int .u32 1),.pl (.int .i32 1),.pl (.int .u32 0),.ifc 283 (.ptr 102051 0),.pl (.slice none 0 0)]),(102051,.row 282 1 0 (F cU u1))] []:=by
  unfold JK at h;refine D_of_run Tryz.hU Tryz.func282 (fun _ _ _ hB=> ?_);refine Zr [5] (.q 0 (.q 1 (.q 2 (.q 3 (.e 4 (.e 5 (.done))))))) hm ?_;refine z.F.d7.k7.r1.g ?_;refine n_callK (atomic_b32_ok (show atomic_b32 true=some 1 from rfl)) ?_;refine ge ?_;refine n_astore Tryz.func288 ?_;refine m_nil ?_;apply za [(12000101,12000101),(102051,102051)] hB h
theorem sync_Mutex_Unlock_s1_ok {u1:(List UInt8)}{r:Unit}(h:JJ u1=some r):XSpec Tryz.prog 287 [.ptr 20000101 1] [(20000101,.box 260 [.pl (.int .u32 1),.pl (.int .i32 1),.pl (.int .u32 0),.ifc 283 (.ptr 20000102 0),.pl (.slice none 0 0)]),(20000102,.row 282 1 0 (F cU u1))] (.tup []) [(20000101,.box 260 [.pl (.int .u32 1),.pl (.int .i32 0),.pl (.int .u32 0),.ifc 283 (.ptr 20000102 0),.pl (.slice none 0 0)]),(20000102,.row 282 1 0 (F cU u1))] []:=by
  unfold JJ at h;refine zc Tryz.hU Tryz.func287 (fun _ _ _ hB=> ?_);refine z.o6.c7.a8.b.e2.J.g ?_;refine l_nat (race1_spec Tryz.func297 20000101 1) ?_;refine z.n9.e.g ?_;refine l_nat (race0_spec Tryz.func292) ?_;refine z.c1.c7.g ?_;refine l_aadd Tryz.func298 ?_;refine z.n9.K.i0.t.I.g ?_;refine l_nat (race0_spec Tryz.func294) ?_;refine k_nil ?_;apply za [(20000101,20000101),(20000102,20000102)] hB h
theorem sync_Mutex_Unlock_2_s1_ok {u1:(List UInt8)}{r:Unit}(h:Jg u1=some r):DSpec Tryz.prog 281 [.ptr 12000101 1] [(12000101,.box 260 [.pl (.int .u32 1),.pl (.int .i32 1),.pl (.int .u32 0),.ifc 283 (.ptr 102051 0),.pl (.slice none 0 0)]),(102051,.row 282 1 0 (F cU u1))] (.tup []) [(12000101,.box 260 [.pl (.int .u32 1),.pl (.int .i32 0),.pl (.int .u32 0),.ifc 283 (.ptr 102051 0),.pl (.slice none 0 0)]),(102051,.row 282 1 0 (F cU u1))] []:=by
  unfold Jg at h;refine D_of_run Tryz.hU Tryz.func281 (fun _ _ _ hB=> ?_);refine z.c1.i.g ?_;refine zh [(20000101,12000101),(20000102,102051)] [12000101,102051] h (fun _=>sync_Mutex_Unlock_s1_ok) (fun v1 _ h=> ?_);refine k_nil ?_;apply za [(12000101,12000101),(102051,102051)] hB h
theorem sync_Once_doSlow_s1_ok {u1:(List Str)}{r:(List UInt8)}(h:QI u1=some r):XSpec Tryz.prog 275 [.ptr 12000101 0,.fn (.func 265) [.ptr 12000101 0] []] [(12000101,.box 260 [.pl (.int .u32 0),.pl (.int .i32 0),.pl (.int .u32 0),.pl .nilIface,.sl 12000102 0 u1.length]),(12000102,.row 9 1 0 (F cS u1))] (.tup []) [(12000101,.box 260 [.pl (.int .u32 1),.pl (.int .i32 0),.pl (.int .u32 0),.ifc 283 (.ptr 12000151 0),.pl (.slice none 0 0)]),(12000102,.row 9 1 0 (F cS u1)),(12000151,.row 282 1 0 (F cU r))] []:=by
  unfold QI at h;refine X_of_runD Tryz.hU Tryz.func275 (fun _ _ _ hB hA=> ?_);refine z.c1.b.g ?_;refine zh [(13000101,12000101),(13000102,12000102)] [12000101,12000102] h (fun _=>sync_Mutex_Lock_2_s1_ok) (fun v1 _ h=> ?_);refine z.c1.c7.g ?_;refine l_defer hA rfl rfl rfl rfl rfl (fun p1 hp1 hn1=> ?_);refine z.c1.c7.g ?_;refine zh [(15000101,12000101),(15000102,12000102)] [12000101,12000102] h (fun _=>atomic_Bool_Load_s2_ok) (fun v2 _ h=> ?_);refine z.c1.b.e2.d0.g ?_;refine l_defer hA rfl rfl rfl rfl rfl (fun p2 hp2 hn2=> ?_);refine z.i.e.g ?_;refine zh [(16000101,12000101),(16000102,12000102),(16000151,102051)] [12000101,12000102] h (fun _=>strings_Replacer_buildOnce_s1_ok) (fun v3 _ h=> ?_);refine z.s8.d2.g ?_;obtain ⟨v4,hv4,h⟩:=bind_some h;refine leavesD_cons (ks:=[.bool true]) [12000101,102051] hp2 hn2 (atomic_Bool_Store_s1_ok hv4) ?_;obtain ⟨v5,hv5,h⟩:=bind_some h;refine leavesD_cons (ks:=[]) [12000101,102051] hp1 hn1 (sync_Mutex_Unlock_2_s1_ok hv5) ?_
  cases h
  exact leavesD_nil [(12000101,12000101),(12000102,12000102),(102051,12000151)] hB
theorem sync_Once_Do_s1_ok {u1:(List Str)}{r:(List UInt8)}(h:Jq u1=some r):XSpec Tryz.prog 264 [.ptr 10000101 0,.fn (.func 265) [.ptr 10000101 0] []] [(10000101,.box 260 [.pl (.int .u32 0),.pl (.int .i32 0),.pl (.int .u32 0),.pl .nilIface,.sl 10000102 0 u1.length]),(10000102,.row 9 1 0 (F cS u1))] (.tup []) [(10000101,.box 260 [.pl (.int .u32 1),.pl (.int .i32 0),.pl (.int .u32 0),.ifc 283 (.ptr 10000151 0),.pl (.slice none 0 0)]),(10000102,.row 9 1 0 (F cS u1)),(10000151,.row 282 1 0 (F cU r))] []:=by
  unfold Jq at h;refine zc Tryz.hU Tryz.func264 (fun _ _ _ hB=> ?_);refine z.c1.b.g ?_;refine zh [(11000101,10000101),(11000102,10000102)] [10000101,10000102] h (fun _=>atomic_Bool_Load_s1_ok) (fun v1 _ h=> ?_);refine z.C.e2.d0.g ?_;refine zh [(12000101,10000101),(12000102,10000102),(12000151,101151)] [10000101,10000102] h (fun _=>sync_Once_doSlow_s1_ok) (fun v2 _ h=> ?_);refine k_nil ?_;apply za [(10000101,10000101),(10000102,10000102),(101151,10000151)] hB h
theorem Qe {u1:Str}{u2:(List UInt8)}{r:Str}(h:zT u1 u2=some r):XSpec Tryz.prog 331 [.ptr 21000101 0,S u1] [(21000101,.row 282 1 0 (F cU u2))] (S r) [(21000101,.row 282 1 0 (F cU u2))] []:=by
  unfold zT at h;refine zc Tryz.hU Tryz.func331 (fun _ _ _ hB=> ?_);refine z.j3.c.k0.j.c.g ?_;refine zE (Sum.elim (fun (y1:Int)=>⟨[(0,.ptr 21000101 0),(1,S u1),(5,.pl (.slice none 0 0)),(6,I y1)],[(21000101,.row 282 1 0 (F cU u2))],[]⟩) (fun (y1:Int×(List UInt8))=>⟨[(0,.ptr 21000101 0),(1,S u1),(5,.sl 1027 0 y1.2.length),(6,I y1.1)],[(21000101,.row 282 1 0 (F cU u2)),(1027,.row 5 1 0 (F cU y1.2))],[]⟩)) (Sum.elim (fun q13=>(.exit 0,⟨[(1,S u1),(5,.pl (.slice none 0 0))],[(21000101,.row 282 1 0 (F cU u2))],[]⟩)) (fun q14=>(.exit 0,⟨[(1,S u1),(5,.sl 1027 0 q14.length)],[(21000101,.row 282 1 0 (F cU u2)),(1027,.row 5 1 0 (F cU q14))],[]⟩))) [(21000101,21000101)] hB h (fun y1 t h=> ?_) (fun q h=> ?_)
  · unfold zn at h
    rcases y1 with y1|y1
    · dsimp only [Sum.elim] at h ⊢
      refine z.t.V.m0.g ?_;refine zo h (fun _ h=> ?_) (fun _ h=> ?_)
      · refine z.h.D.g ?_;refine Z1 h (fun v2 _ h=> ?_);refine z.m9.q.g ?_;refine l_aidx h (fun v3 ev3 h=> ?_);refine QN ev3 ?_;refine z.t.a.g ?_;refine zo h (fun _ h=> ?_) (fun _ h=> ?_)
        · refine z.m9.j1.j.o2.i.e2.e.r2.U.g ?_;refine l_aidx h (fun v4 ev4 h=> ?_);refine QN ev4 ?_;refine Q5 h (fun v5 ev5 h=> ?_);refine l_put0 ev5 h (fun v6 ev6 h=> ?_);refine z.b9.d8.d2.g ?_;refine qs 5 v6.length ?_;exact zt [(21000101,21000101),(1027,1027)] hB h
        refine z.b9.d8.X.g ?_;exact zt [(21000101,21000101)] hB h
      refine z.k.g ?_;exact zr [(21000101,21000101)] hB h
    dsimp only [Sum.elim] at h ⊢
    refine z.t.V.m0.g ?_;refine zo h (fun _ h=> ?_) (fun _ h=> ?_)
    · refine z.h.D.g ?_;refine Z1 h (fun v7 _ h=> ?_);refine z.m9.q.g ?_;refine l_aidx h (fun v8 ev8 h=> ?_);refine QN ev8 ?_;refine z.t.a.g ?_;refine zo h (fun _ h=> ?_) (fun _ h=> ?_)
      · refine z.U.g ?_;refine l_nenil h (fun v9 _ h=> ?_);refine z.m9.j1.K.i0.e.g ?_;refine l_aidx h (fun v10 ev10 h=> ?_);refine QN ev10 ?_;refine Q5 h (fun v11 ev11 h=> ?_);refine l_put0 ev11 h (fun v12 ev12 h=> ?_);refine z.b9.d8.d2.g ?_;refine qs 5 v12.length ?_;exact zt [(21000101,21000101),(1027,1027)] hB h
      refine z.b9.d8.X.g ?_;exact zt [(21000101,21000101),(1027,1027)] hB h
    refine z.k.g ?_;exact zr [(21000101,21000101),(1027,1027)] hB h
  rcases q with q13|q14
  · dsimp only [Sum.elim] at h ⊢
    refine z.m2.b.e2.e.r2.U.R.g ?_;apply za [(21000101,21000101)] hB h
  dsimp only [Sum.elim] at h ⊢
  refine z.U.R.g ?_;refine l_nenil h (fun v15 _ h=> ?_);refine z.l.p5.y.i0.e.g ?_;apply za [(21000101,21000101)] hB h
theorem strings_Replacer_Replace_s1_ok {u1:Str}{u2:(List Str)}{r:Str×(List UInt8)}(h:qx u1 u2=some r):XSpec Tryz.prog 248 [.ptr 9000101 0,S u1] [(9000101,.box 260 [.pl (.int .u32 0),.pl (.int .i32 0),.pl (.int .u32 0),.pl .nilIface,.sl 9000102 0 u2.length]),(9000102,.row 9 1 0 (F cS u2))] (S r.1) [(9000101,.box 260 [.pl (.int .u32 1),.pl (.int .i32 0),.pl (.int .u32 0),.ifc 283 (.ptr 9000151 0),.pl (.slice none 0 0)]),(9000102,.row 9 1 0 (F cS u2)),(9000151,.row 282 1 0 (F cU r.2))] []:=by
  unfold qx at h;refine zc Tryz.hU Tryz.func248 (fun _ _ _ hB=> ?_);refine z.q0.a.c1.a7.g ?_;refine zh [(10000101,9000101),(10000102,9000102),(10000151,101051)] [9000101,9000102] h (fun _=>sync_Once_Do_s1_ok) (fun v1 _ h=> ?_);refine z.i4.c7.g ?_;refine l_callXI [(21000101,101051)] [101051] h (fun _=>Qe) (fun v2 _ h=> ?_);refine z.l.g ?_;apply za [(9000101,9000101),(9000102,9000102),(101051,9000151)] hB h
theorem atomic_Bool_Load_s3_ok {u1:(List UInt8)}{r:Unit}(h:QJ u1=some r):XSpec Tryz.prog 274 [.ptr 24000101 0] [(24000101,.box 260 [.pl (.int .u32 1),.pl (.int .i32 0),.pl (.int .u32 0),.ifc 283 (.ptr 24000102 0),.pl (.slice none 0 0)]),(24000102,.row 282 1 0 (F cU u1))] (B true) [(24000101,.box 260 [.pl (.int .u32 1),.pl (.int .i32 0),.pl (.int .u32 0),.ifc 283 (.ptr 24000102 0),.pl (.slice none 0 0)]),(24000102,.row 282 1 0 (F cU u1))] []:=by
  unfold QJ at h;refine zc Tryz.hU Tryz.func274 (fun _ _ _ hB=> ?_);refine z.c1.a7.g ?_;refine l_aload Tryz.func279 ?_;refine z.l.b4.g ?_;apply za [(24000101,24000101),(24000102,24000102)] hB h
theorem sync_Once_Do_s2_ok {u1:(List UInt8)}{r:Unit}(h:J7 u1=some r):XSpec Tryz.prog 264 [.ptr 23000101 0,.fn (.func 265) [.ptr 23000101 0] []] [(23000101,.box 260 [.pl (.int .u32 1),.pl (.int .i32 0),.pl (.int .u32 0),.ifc 283 (.ptr 23000102 0),.pl (.slice none 0 0)]),(23000102,.row 282 1 0 (F cU u1))] (.tup []) [(23000101,.box 260 [.pl (.int .u32 1),.pl (.int .i32 0),.pl (.int .u32 0),.ifc 283 (.ptr 23000102 0),.pl (.slice none 0 0)]),(23000102,.row 282 1 0 (F cU u1))] []:=by
  unfold J7 at h;refine zc Tryz.hU Tryz.func264 (fun _ _ _ hB=> ?_);refine z.c1.b.g ?_;refine zh [(24000101,23000101),(24000102,23000102)] [23000101,23000102] h (fun _=>atomic_Bool_Load_s3_ok) (fun v1 _ h=> ?_);refine z.X.i0.d0.g ?_;apply za [(23000101,23000101),(23000102,23000102)] hB h
theorem strings_Replacer_Replace_s2_ok {u1:Str}{u2:(List UInt8)}{r:Str}(h:qe u1 u2=some r):XSpec Tryz.prog 248 [.ptr 22000101 0,S u1] [(22000101,.box 260 [.pl (.int .u32 1),.pl (.int .i32 0),.pl (.int .u32 0),.ifc 283 (.ptr 22000102 0),.pl (.slice none 0 0)]),(22000102,.row 282 1 0 (F cU u2))] (S r) [(22000101,.box 260 [.pl (.int .u32 1),.pl (.int .i32 0),.pl (.int .u32 0),.ifc 283 (.ptr 22000102 0),.pl (.slice none 0 0)]),(22000102,.row 282 1 0 (F cU u2))] []:=by
  unfold qe at h;refine zc Tryz.hU Tryz.func248 (fun _ _ _ hB=> ?_);refine z.q0.a.c1.a7.g ?_;refine zh [(23000101,22000101),(23000102,22000102)] [22000101,22000102] h (fun _=>sync_Once_Do_s2_ok) (fun v1 _ h=> ?_);refine z.i4.c7.g ?_;refine l_callXI [(21000101,22000102)] [22000102] h (fun _=>Qe) (fun v2 _ h=> ?_);refine z.l.g ?_;apply za [(22000101,22000101),(22000102,22000102)] hB h
theorem chars_expand_s1_ok {u1:Str}{u2:(List Str)}{r:Str×Bool}(h:J5 u1 u2=some r):XSpec Tryz.prog 218 [S u1,.fn (.func 248) [.ptr 8000101 0] []] [(8000101,.box 260 [.pl (.int .u32 0),.pl (.int .i32 0),.pl (.int .u32 0),.pl .nilIface,.sl 8000102 0 u2.length]),(8000102,.row 9 1 0 (F cS u2))] (.tup [S r.1,B r.2]) [(8000102,.row 9 1 0 (F cS u2))] [8000101]:=by
  unfold J5 at h;refine zc Tryz.hU Tryz.func218 (fun _ _ _ hB=> ?_);refine z.f8.r.g ?_;refine qS (fun q3=>(.normal,⟨[(0,S u1),(1,.fn (.func 248) [.ptr 8000101 0] []),(22,B q3)],[(8000101,.box 260 [.pl (.int .u32 0),.pl (.int .i32 0),.pl (.int .u32 0),.pl .nilIface,.sl 8000102 0 u2.length]),(8000102,.row 9 1 0 (F cS u2))],[]⟩)) h (fun t h=> ?_) (fun q3 h=> ?_)
  · refine z.o2.i.g ?_;refine l_callB h (fun _=>utf_Text_ok) (fun v1 _ h=> ?_);refine z.f6.g ?_;refine zb h (fun _ h=> ?_) (fun _ h=> ?_)
    · refine z.M.m.g ?_;exact zp [(8000101,8000101),(8000102,8000102)] hB h
    refine z.f.g ?_;refine zm h (fun _=>Zi) (fun v2 _ h=> ?_);refine l_to [(8000101,8000101),(8000102,8000102)] ⟨[(0,S u1),(1,.fn (.func 248) [.ptr 8000101 0] []),(19,B false),(21,B v2)],[(8000101,.box 260 [.pl (.int .u32 0),.pl (.int .i32 0),.pl (.int .u32 0),.pl .nilIface,.sl 8000102 0 u2.length]),(8000102,.row 9 1 0 (F cS u2))],[]⟩ hB ?_;refine z.c3.g ?_;exact zp [(8000101,8000101),(8000102,8000102)] hB h
  refine f_t ?_;refine zo h (fun _ h=> ?_) (fun _ h=> ?_)
  · refine z.O.g ?_;apply za [(8000102,8000102)] hB h
  refine z.l9.e9.c.K.g ?_;refine k_npcell (b:=1006) (j:=0) 1006 0 ?_;refine zE (Sum.elim (fun (y4:Unit)=>⟨[(0,S u1),(1,.fn (.func 248) [.ptr 8000101 0] []),(6,.ptr 1006 0)],[(8000101,.box 260 [.pl (.int .u32 0),.pl (.int .i32 0),.pl (.int .u32 0),.pl .nilIface,.sl 8000102 0 u2.length]),(8000102,.row 9 1 0 (F cS u2)),(1006,.box 102 [.nptr true 1006 0,.pl (.slice none 0 0)])],[]⟩) (fun (y4:Str×(List UInt8)×(List UInt8))=>⟨[(0,S y4.1),(1,.fn (.func 248) [.ptr 8000101 0] []),(6,.ptr 1006 0)],[(8000101,.box 260 [.pl (.int .u32 1),.pl (.int .i32 0),.pl (.int .u32 0),.ifc 283 (.ptr 103151 0),.pl (.slice none 0 0)]),(8000102,.row 9 1 0 (F cS u2)),(1006,.box 102 [.nptr false 1006 0,.sl 13061 0 y4.2.2.length]),(103151,.row 282 1 0 (F cU y4.2.1)),(13061,.row 5 1 0 (F cU y4.2.2))],[13061]⟩)) (fun q19=>(.ret,⟨[(4,S q19.1),(5,B q19.2.1)],[(8000101,.box 260 [.pl (.int .u32 1),.pl (.int .i32 0),.pl (.int .u32 0),.ifc 283 (.ptr 103151 0),.pl (.slice none 0 0)]),(8000102,.row 9 1 0 (F cS u2)),(103151,.row 282 1 0 (F cU q19.2.2))],[13061]⟩)) [(8000101,8000101),(8000102,8000102),(1006,1006)] hB h (fun y4 t h=> ?_) (fun q19 h=> ?_)
  · unfold z6 at h
    rcases y4 with y4|y4
    · dsimp only [Sum.elim] at h ⊢
      refine z.b.c5.g ?_;refine zm h (fun _=>qM) (fun v5 _ h=> ?_);refine z.q.A.k3.k4.g ?_;refine zh [(9000101,8000101),(9000102,8000102),(9000151,103151)] [8000101,8000102] h (fun _=>strings_Replacer_Replace_s1_ok) (fun v6 _ h=> ?_);refine l_nilcell (te:=5) (b1:=1006) (j:=1) 13061 1 ?_;refine zh [(4000101,1006),(4000102,13061)] [1006,13061] h (fun _=>zi) (fun v7 _ h=> ?_);refine z.d0.U.e.g ?_;refine zo h (fun _ h=> ?_) (fun _ h=> ?_)
      · refine z.c.g ?_;refine zh [(6000101,1006),(6000102,13061)] [1006,13061] h (fun _=>zK) (fun v8 _ h=> ?_);refine z.B.e3.g ?_;exact zr [(8000101,8000101),(8000102,8000102),(103151,103151)] hB h
      refine z.y.g ?_;refine zm h (fun _=>qM) (fun v9 _ h=> ?_);refine z.w.A.k3.k4.g ?_;refine zm h (fun _=>J4) (fun v10 _ h=> ?_);refine z.f6.I.P.g ?_;refine zb h (fun _ h=> ?_) (fun _ h=> ?_)
      · refine z.B.O.i5.m.g ?_;exact zr [(8000101,8000101),(8000102,8000102),(103151,103151)] hB h
      refine z.d4.j8.f.g ?_;refine zo h (fun _ h=> ?_) (fun _ h=> ?_)
      · refine z.B.O.g ?_;exact zr [(8000101,8000101),(8000102,8000102),(103151,103151)] hB h
      refine z.y.g ?_;refine zh [(4000101,1006),(4000102,13061)] [1006,13061] h (fun _=>zi) (fun v11 _ h=> ?_);refine z.i6.i.e.g ?_;exact zt [(8000101,8000101),(8000102,8000102),(1006,1006),(103151,103151),(13061,13061)] hB h
    dsimp only [Sum.elim] at h ⊢
    refine z.b.c5.g ?_;refine zm h (fun _=>qM) (fun v12 _ h=> ?_);refine z.q.A.k3.k4.g ?_;refine zh [(22000101,8000101),(22000102,103151)] [8000101,103151] h (fun _=>strings_Replacer_Replace_s2_ok) (fun v13 _ h=> ?_);refine zh [(4000101,1006),(4000102,13061)] [1006,13061] h (fun _=>zi) (fun v14 _ h=> ?_);refine z.d0.U.e.g ?_;refine zo h (fun _ h=> ?_) (fun _ h=> ?_)
    · refine z.c.g ?_;refine zh [(6000101,1006),(6000102,13061)] [1006,13061] h (fun _=>zK) (fun v15 _ h=> ?_);refine z.B.e3.g ?_;exact zr [(8000101,8000101),(8000102,8000102),(103151,103151)] hB h
    refine z.y.g ?_;refine zm h (fun _=>qM) (fun v16 _ h=> ?_);refine z.w.A.k3.k4.g ?_;refine zm h (fun _=>J4) (fun v17 _ h=> ?_);refine z.f6.I.P.g ?_;refine zb h (fun _ h=> ?_) (fun _ h=> ?_)
    · refine z.B.O.i5.m.g ?_;exact zr [(8000101,8000101),(8000102,8000102),(103151,103151)] hB h
    refine z.d4.j8.f.g ?_;refine zo h (fun _ h=> ?_) (fun _ h=> ?_)
    · refine z.B.O.g ?_;exact zr [(8000101,8000101),(8000102,8000102),(103151,103151)] hB h
    refine z.y.g ?_;refine zh [(4000101,1006),(4000102,13061)] [1006,13061] h (fun _=>zi) (fun v18 _ h=> ?_);refine z.i6.i.e.g ?_;exact zt [(8000101,8000101),(8000102,8000102),(1006,1006),(103151,103151),(13061,13061)] hB h
  refine f_br ?_;refine f_nilcell (te:=9) (b1:=8000101) (j:=4) 80004014 1 ?_;apply za [(8000102,8000102)] hB h
theorem chars_Value_ok {s:Str}{r:Str×Bool}(h:chars_Value s=some r):XSpec Tryz.prog 216 [S s] [] (.tup [S r.1,B r.2]) [] []:=by
  unfold chars_Value at h;refine zc Tryz.hU Tryz.func216 (fun _ _ _ hB=> ?_);refine z.c.j.r.g ?_;refine Qq (e:=cS) [[9],[32],[10],[32],[13],[32]] ?_;refine zh [(7000101,1005),(7000151,100651),(7000152,100652)] [1005] h (fun _=>strings_NewReplacer_s1_ok) (fun v1 _ h=> ?_);refine z.q0.q.g ?_;refine zh [(8000101,100651),(8000102,100652)] [100651,100652] h (fun _=>chars_expand_s1_ok) (fun v2 _ h=> ?_);refine z.a0.m8.g ?_;apply za [] hB h
theorem stringslite_IndexByte_ok {s:Str}{c:UInt8}{r:Int}(h:Jz s c=some r):XSpec Tryz.prog 217 [S s,U c] [] (I r) [] []:=by
  unfold Jz at h;refine zc Tryz.hU Tryz.func217 (fun _ _ _ hB=> ?_);refine z.q.c.g ?_;refine l_nat (indexByte_spec Tryz.func249 s c) ?_;refine z.l.g ?_;apply za [] hB h
theorem strings_IndexByte_ok {s:Str}{c:UInt8}{r:Int}(h:JC s c=some r):XSpec Tryz.prog 168 [S s,U c] [] (I r) [] []:=by
  unfold JC at h;refine zc Tryz.hU Tryz.func168 (fun _ _ _ hB=> ?_);refine z.q.c.g ?_;refine zm h (fun _=>stringslite_IndexByte_ok) (fun v1 _ h=> ?_);refine z.l.g ?_;apply za [] hB h
theorem name_Trim_ok {s:Str}{r:Str}(h:name_Trim s=some r):XSpec Tryz.prog 169 [S s] [] (S r) [] []:=by
  unfold name_Trim at h;refine zc Tryz.hU Tryz.func169 (fun _ _ _ hB=> ?_);refine z.c5.k0.g ?_;refine zE (fun y1=>⟨[(0,S y1)],[],[]⟩) (fun q5=>(.exit 0,⟨[(0,S q5)],[],[]⟩)) [] hB h (fun y1 t h=> ?_) (fun q5 h=> ?_)
  · unfold name_Trim_b1 at h;refine z.a.i9.U.g ?_;refine zb h (fun _ h=> ?_) (fun _ h=> ?_)
    · refine z.f.g ?_;refine Z1 h (fun v2 _ h=> ?_);refine l_on ?_;refine zm h (fun _=>J0) (fun v3 _ h=> ?_);refine z.i3.g ?_;refine zo h (fun _ h=> ?_) (fun _ h=> ?_)
      · refine z.i.k1.g ?_;refine Za h (fun v4 _ h=> ?_);refine z.i6.g ?_;exact zt [] hB h
      refine z.k.g ?_;exact zr [] hB h
    refine z.k.h7.o.g ?_;exact zr [] hB h
  refine z.c5.J.R.g ?_;refine zE (fun y6=>⟨[(0,S y6)],[],[]⟩) (fun q10=>(.exit 2,⟨[(0,S q10)],[],[]⟩)) [] hB h (fun y6 t h=> ?_) (fun q10 h=> ?_)
  · unfold name_Trim_b2 at h;refine z.a.i9.U.g ?_;refine zb h (fun _ h=> ?_) (fun _ h=> ?_)
    · refine z.b6.T.b6.V.f.s.g ?_;refine Z1 h (fun v7 _ h=> ?_);refine l_on ?_;refine zm h (fun _=>J0) (fun v8 _ h=> ?_);refine z.i3.g ?_;refine zo h (fun _ h=> ?_) (fun _ h=> ?_)
      · refine z.T.V.C.k1.g ?_;refine Za h (fun v9 _ h=> ?_);refine z.i6.g ?_;exact zt [] hB h
      refine z.k.g ?_;exact zr [] hB h
    refine z.k.h7.m.n.g ?_;exact zr [] hB h
  refine z.l.j4.g ?_;apply za [] hB h
theorem chars_Content_c1_ok {x:Str}{r:Str}(h:JU x=some r):XSpec Tryz.prog 219 [S x] [] (S r) [] []:=by
  unfold JU at h;refine zc Tryz.hU Tryz.func219 (fun _ _ _ hB=> ?_);refine z.l.a7.g ?_;apply za [] hB h
theorem chars_Content_ok {s:Str}{r:Str×Bool}(h:QA s=some r):XSpec Tryz.prog 170 [S s] [] (.tup [S r.1,B r.2]) [] []:=by
  unfold QA at h;refine zc Tryz.hU Tryz.func170 (fun _ _ _ hB=> ?_);refine z.I.r.g ?_;refine zm h (fun _=>Zi) (fun v1 _ h=> ?_);refine z.e.g ?_;refine zo h (fun _ h=> ?_) (fun _ h=> ?_)
  · refine z.O.g ?_;apply za [] hB h
  refine z.y.g ?_;refine zm h (fun _=>chars_expand_ok (fun h=>chars_Content_c1_ok h) ⟨rfl,rfl⟩) (fun v2 _ h=> ?_);refine z.a0.m8.g ?_;apply za [] hB h
theorem doc_bare_ok {x:ze}{r:Bool}(h:doc_bare x=some r):XSpec Tryz.prog 171 [.agg (zl x)] [] (B r) [] []:=by
  unfold doc_bare at h;refine zc Tryz.hU Tryz.func171 (fun _ _ _ hB=> ?_);refine z.a.a1.h2.j.l2.c.g ?_;refine zb h (fun _ h=> ?_) (fun _ h=> ?_)
  · refine z.a4.h3.g ?_;refine zb h (fun _ h=> ?_) (fun _ h=> ?_)
    · refine z.a4.c6.Q.H.g ?_;refine zb h (fun _ h=> ?_) (fun _ h=> ?_)
      · refine z.b5.c6.Q.H.g ?_;apply za [] hB h
      refine z.c0.n.g ?_;apply za [] hB h
    refine z.c0.n.p.n.g ?_;apply za [] hB h
  refine z.c0.n.p.n.j7.g ?_;apply za [] hB h
theorem doc_stands_ok {l:(List ze)}{n:Int}{r:Bool}(h:J8 l n=some r):XSpec Tryz.prog 172 [.vs l.length (F zl l),I n] [] (B r) [] []:=by
  unfold J8 at h;refine zc Tryz.hU Tryz.func172 (fun _ _ _ hB=> ?_);refine z.j3.T.f2.g ?_;refine zE (fun y1=>⟨[(0,.vs l.length (F zl l)),(1,I n),(5,I y1)],[],[]⟩) (Sum.elim (fun q6=>(.ret,⟨[(4,B q6)],[],[]⟩)) (fun q7=>(.exit 0,⟨[],[],[]⟩))) [] hB h (fun y1 t h=> ?_) (fun q h=> ?_)
  · unfold ZB at h;refine z.t.U.g ?_;refine zo h (fun _ h=> ?_) (fun _ h=> ?_)
    · refine z.a.h.D.g ?_;refine Ql h (fun v2 _ h=> ?_);refine z.t.Z.g ?_;refine zo h (fun _ h=> ?_) (fun _ h=> ?_)
      · refine z.h.g ?_;refine Ql h (fun v3 _ h=> ?_);refine z.v.Z.g ?_;refine zb h (fun _ h=> ?_) (fun _ h=> ?_)
        · refine z.E.d1.m.n.g ?_;exact zr [] hB h
        refine z.f.s.g ?_;refine Ql h (fun v4 _ h=> ?_);refine z.E.l3.b4.H.g ?_;exact zr [] hB h
      refine z.C.f7.X.g ?_;refine Ql h (fun v5 _ h=> ?_);refine z.G.Z.g ?_;exact zt [] hB h
    refine z.k.g ?_;exact zr [] hB h
  rcases q with q6|q7
  · dsimp only [Sum.elim] at h ⊢
    refine z.a3.g ?_;apply za [] hB h
  dsimp only [Sum.elim] at h ⊢
  refine z.b2.R.g ?_;apply za [] hB h
theorem doc_declared_c1_ok {o:zg}{p1:zg}{r:Bool}(h:J6 o p1=some r):XSpec Tryz.prog 252 [.agg (zk o),.vptr (zk p1)] [] (B r) [] []:=by
  unfold J6 at h;refine zc Tryz.hU Tryz.func252 (fun _ _ _ hB=> ?_);refine z.l.a1.Z.h2.j.l2.c.g ?_;apply za [] hB h
theorem slices_IndexFunc_Decl_ok {s:(List zg)}{f:(zg→Option Bool)}{fk_f:Nat}{fc_f:List AV}(hf_f: ∀ {x0:zg} {r:Bool},f x0=some r→XSpec Tryz.prog fk_f ((.agg (zk x0))::fc_f) [] (B r) [] [])(hc_f:AV.closedL fc_f=true∧AV.onlyL [] fc_f=true){r:Int}(h:Qk s f=some r):XSpec Tryz.prog 269 [.vs s.length (F zk s),.fn (.func fk_f) [] fc_f] [] (I r) [] []:=by
  unfold Qk at h;refine zc Tryz.hU Tryz.func269 (fun _ _ _ hB=> ?_);refine z.f0.f2.g ?_;refine zE (fun y1=>⟨[(0,.vs s.length (F zk s)),(1,.fn (.func fk_f) [] fc_f),(7,I (s.length:Int)),(8,I y1)],[],[]⟩) (Sum.elim (fun q4=>(.ret,⟨[(4,I q4)],[],[]⟩)) (fun q5=>(.exit 0,⟨[],[],[]⟩))) [] hB h (fun y1 t h=> ?_) (fun q h=> ?_)
  · unfold zX at h;refine z.b7.g ?_;refine zo h (fun _ h=> ?_) (fun _ h=> ?_)
    · refine z.a.q.b.D.g ?_;refine Ql h (fun v2 _ h=> ?_);refine l_load_agg ?_;refine l_callF hc_f h (fun _=>hf_f) (fun v3 _ h=> ?_);refine z.e.g ?_;refine zo h (fun _ h=> ?_) (fun _ h=> ?_)
      · refine z.E.b.g ?_;exact zr [] hB h
      refine z.e5.g ?_;exact zt [] hB h
    refine z.k.g ?_;exact zr [] hB h
  rcases q with q4|q5
  · dsimp only [Sum.elim] at h ⊢
    refine z.a3.g ?_;apply za [] hB h
  dsimp only [Sum.elim] at h ⊢
  refine z.b2.R.g ?_;apply za [] hB h
theorem slices_ContainsFunc_Decl_ok {s:(List zg)}{f:(zg→Option Bool)}{fk_f:Nat}{fc_f:List AV}(hf_f: ∀ {x0:zg} {r:Bool},f x0=some r→XSpec Tryz.prog fk_f ((.agg (zk x0))::fc_f) [] (B r) [] [])(hc_f:AV.closedL fc_f=true∧AV.onlyL [] fc_f=true){r:Bool}(h:qN s f=some r):XSpec Tryz.prog 251 [.vs s.length (F zk s),.fn (.func fk_f) [] fc_f] [] (B r) [] []:=by
  unfold qN at h;refine zc Tryz.hU Tryz.func251 (fun _ _ _ hB=> ?_);refine z.q.c.g ?_;refine zm h (fun _=>slices_IndexFunc_Decl_ok (fun h=>hf_f h) hc_f) (fun v1 _ h=> ?_);refine z.l.b4.g ?_;apply za [] hB h
theorem doc_prefix_ok {s:Str}{r:Bool}(h:JH s=some r):XSpec Tryz.prog 253 [S s] [] (B r) [] []:=by
  unfold JH at h;refine zc Tryz.hU Tryz.func253 (fun _ _ _ hB=> ?_);refine z.a.a1.a7.g ?_;refine zb h (fun _ h=> ?_) (fun _ h=> ?_)
  · refine z.b5.m.g ?_;apply za [] hB h
  refine z.f.g ?_;refine zm h (fun _=>Zt) (fun v1 _ h=> ?_);refine z.c0.g ?_;apply za [] hB h
theorem Q0 {s:Str}{r:Bool}(h:Jp s=some r):XSpec Tryz.prog 222 [S s] [] (B r) [] []:=by
  unfold Jp at h;refine zc Tryz.hU Tryz.func222 (fun _ _ _ hB=> ?_);refine z.o2.a7.g ?_;refine l_callB h (fun _=>utf_Text_ok) (fun v1 _ h=> ?_);refine z.l.g ?_;apply za [] hB h
theorem doc_declared_ok {l:(List zg)}{r:Bool}(h:doc_declared l=some r):XSpec Tryz.prog 220 [.vs l.length (F zk l)] [] (B r) [] []:=by
  unfold doc_declared at h;refine zc Tryz.hU Tryz.func220 (fun _ _ _ hB=> ?_);refine z.f0.f2.g ?_;refine zE (fun y1=>⟨[(0,.vs l.length (F zk l)),(6,.vs l.length (F zk l)),(7,I (l.length:Int)),(8,I y1)],[],[]⟩) (Sum.elim (fun q7=>(.ret,⟨[(2,B false)],[],[]⟩)) (fun q8=>(.exit 0,⟨[],[],[]⟩))) [] hB h (fun y1 t h=> ?_) (fun q h=> ?_)
  · unfold ZN at h;refine z.b7.g ?_;refine zo h (fun _ h=> ?_) (fun _ h=> ?_)
    · refine z.b.D.g ?_;refine Ql h (fun v2 _ h=> ?_);refine z.h.e1.A.e9.d3.g ?_;refine l_subf h (fun v3 _ h=> ?_);refine l_makeFunc ?_;refine l_callB h (fun _=>slices_ContainsFunc_Decl_ok (fun h=>doc_declared_c1_ok h) ⟨rfl,rfl⟩) (fun v4 _ h=> ?_);refine z.q.g ?_;refine zb h (fun _ h=> ?_) (fun _ h=> ?_)
      · refine z.f4.h4.o.e6.S.S.h4.n.g ?_;exact zr [] hB h
      refine z.H.g ?_;refine zm h (fun _=>doc_prefix_ok) (fun v5 _ h=> ?_);refine z.p.Y.g ?_;refine zb h (fun _ h=> ?_) (fun _ h=> ?_)
      · refine z.f4.h4.o.e6.S.S.o.g ?_;exact zr [] hB h
      refine z.p.h3.g ?_;refine zb h (fun _ h=> ?_) (fun _ h=> ?_)
      · refine z.f4.h4.o.e6.e6.g ?_;exact zr [] hB h
      refine z.H.g ?_;refine zm h (fun _=>Q0) (fun v6 _ h=> ?_);refine z.p.Y.g ?_;refine zb h (fun _ h=> ?_) (fun _ h=> ?_)
      · refine z.f4.h4.o.e6.n.g ?_;exact zr [] hB h
      refine z.s.h3.g ?_;refine zb h (fun _ h=> ?_) (fun _ h=> ?_)
      · refine z.p.h1.i9.H.g ?_;refine zb h (fun _ h=> ?_) (fun _ h=> ?_)
        · refine z.f4.h4.o.n.g ?_;exact zr [] hB h
        refine z.p.r3.b6.h3.h3.g ?_;refine zb h (fun _ h=> ?_) (fun _ h=> ?_)
        · refine z.f4.o.g ?_;exact zr [] hB h
        refine z.d4.h3.g ?_;refine zo h (fun _ h=> ?_) (fun _ h=> ?_)
        · refine z.l1.g ?_;exact zr [] hB h
        refine z.e5.g ?_;exact zt [] hB h
      refine z.p.r3.b6.h3.h3.p.h6.o.g ?_;refine zb h (fun _ h=> ?_) (fun _ h=> ?_)
      · refine z.f4.o.g ?_;exact zr [] hB h
      refine z.d4.h3.g ?_;refine zo h (fun _ h=> ?_) (fun _ h=> ?_)
      · refine z.l1.g ?_;exact zr [] hB h
      refine z.e5.g ?_;exact zt [] hB h
    refine z.k.g ?_;exact zr [] hB h
  rcases q with q7|q8
  · dsimp only [Sum.elim] at h ⊢
    refine z.a3.g ?_;apply za [] hB h
  dsimp only [Sum.elim] at h ⊢
  refine z.b2.R.g ?_;apply za [] hB h
theorem doc_means_ok {l:(List ze)}{n:Int}{p:Str}{r:Str×Bool}(h:doc_means l n p=some r):XSpec Tryz.prog 254 [.vs l.length (F zl l),I n,S p] [] (.tup [S r.1,B r.2]) [] []:=by
  unfold doc_means at h;refine zc Tryz.hU Tryz.func254 (fun _ _ _ hB=> ?_);refine z.e.a1.I.r.g ?_;refine zo h (fun _ h=> ?_) (fun _ h=> ?_)
  · refine z.O.g ?_;apply za [] hB h
  refine z.D.g ?_;refine zE (fun y1=>⟨[(0,.vs l.length (F zl l)),(1,I y1),(2,S p)],[],[]⟩) (Sum.elim (fun q8=>(.ret,⟨[(6,S q8),(7,B true)],[],[]⟩)) (fun q9=>(.exit 0,⟨[(2,S p)],[],[]⟩))) [] hB h (fun y1 t h=> ?_) (fun q h=> ?_)
  · unfold doc_means_b1 at h;refine z.t.U.g ?_;refine zo h (fun _ h=> ?_) (fun _ h=> ?_)
    · refine z.h.D.g ?_;refine Ql h (fun v2 _ h=> ?_);refine z.f0.Z.g ?_;refine zE (fun y3=>⟨[(0,.vs l.length (F zl l)),(1,I y1),(2,S p),(23,.vs v2.Decls.length (F zk v2.Decls)),(24,I (v2.Decls.length:Int)),(25,I y3)],[],[]⟩) (Sum.elim (fun q5=>(.ret,⟨[(6,S q5),(7,B true)],[],[]⟩)) (fun q6=>(.exit 2,⟨[(0,.vs l.length (F zl l)),(1,I y1),(2,S p)],[],[]⟩))) [] hB h (fun y3 t h=> ?_) (fun q h=> ?_)
      · unfold doc_means_b2 at h;refine z.b7.g ?_;refine zo h (fun _ h=> ?_) (fun _ h=> ?_)
        · refine z.c.D.g ?_;refine Ql h (fun v4 _ h=> ?_);refine z.e.a1.a.h2.e1.e9.d3.g ?_;refine zo h (fun _ h=> ?_) (fun _ h=> ?_)
          · refine z.E.A.h2.g ?_;exact zr [] hB h
          refine z.e5.g ?_;exact zt [] hB h
        refine z.k.g ?_;exact zr [] hB h
      rcases q with q5|q6
      · dsimp only [Sum.elim] at h ⊢
        refine z.a3.B.g ?_;exact zr [] hB h
      dsimp only [Sum.elim] at h ⊢
      refine z.C.f7.n4.g ?_;refine Ql h (fun v7 _ h=> ?_);refine z.G.Z.g ?_;exact zt [] hB h
    refine z.k.g ?_;exact zr [] hB h
  rcases q with q8|q9
  · dsimp only [Sum.elim] at h ⊢
    refine z.a3.g ?_;apply za [] hB h
  dsimp only [Sum.elim] at h ⊢
  refine z.a0.a1.j4.g ?_;apply za [] hB h
theorem doc_named_c1_ok {o:zJ}{p1:zJ}{r:Bool}(h:JP o p1=some r):XSpec Tryz.prog 256 [.agg (qb o),.vptr (qb p1)] [] (B r) [] []:=by
  unfold JP at h;refine zc Tryz.hU Tryz.func256 (fun _ _ _ hB=> ?_);refine z.a.a1.Z.h2.j.l2.c.g ?_;refine zb h (fun _ h=> ?_) (fun _ h=> ?_)
  · refine z.b5.a1.o3.H.g ?_;apply za [] hB h
  refine z.c0.c2.n.g ?_;apply za [] hB h
theorem slices_IndexFunc_Attr_ok {s:(List zJ)}{f:(zJ→Option Bool)}{fk_f:Nat}{fc_f:List AV}(hf_f: ∀ {x0:zJ} {r:Bool},f x0=some r→XSpec Tryz.prog fk_f ((.agg (qb x0))::fc_f) [] (B r) [] [])(hc_f:AV.closedL fc_f=true∧AV.onlyL [] fc_f=true){r:Int}(h:Qj s f=some r):XSpec Tryz.prog 270 [.vs s.length (F qb s),.fn (.func fk_f) [] fc_f] [] (I r) [] []:=by
  unfold Qj at h;refine zc Tryz.hU Tryz.func270 (fun _ _ _ hB=> ?_);refine z.f0.f2.g ?_;refine zE (fun y1=>⟨[(0,.vs s.length (F qb s)),(1,.fn (.func fk_f) [] fc_f),(7,I (s.length:Int)),(8,I y1)],[],[]⟩) (Sum.elim (fun q4=>(.ret,⟨[(4,I q4)],[],[]⟩)) (fun q5=>(.exit 0,⟨[],[],[]⟩))) [] hB h (fun y1 t h=> ?_) (fun q h=> ?_)
  · unfold zU at h;refine z.b7.g ?_;refine zo h (fun _ h=> ?_) (fun _ h=> ?_)
    · refine z.a.q.b.D.g ?_;refine Ql h (fun v2 _ h=> ?_);refine l_load_agg ?_;refine l_callF hc_f h (fun _=>hf_f) (fun v3 _ h=> ?_);refine z.e.g ?_;refine zo h (fun _ h=> ?_) (fun _ h=> ?_)
      · refine z.E.b.g ?_;exact zr [] hB h
      refine z.e5.g ?_;exact zt [] hB h
    refine z.k.g ?_;exact zr [] hB h
  rcases q with q4|q5
  · dsimp only [Sum.elim] at h ⊢
    refine z.a3.g ?_;apply za [] hB h
  dsimp only [Sum.elim] at h ⊢
  refine z.b2.R.g ?_;apply za [] hB h
theorem JD {s:(List zJ)}{f:(zJ→Option Bool)}{fk_f:Nat}{fc_f:List AV}(hf_f: ∀ {x0:zJ} {r:Bool},f x0=some r→XSpec Tryz.prog fk_f ((.agg (qb x0))::fc_f) [] (B r) [] [])(hc_f:AV.closedL fc_f=true∧AV.onlyL [] fc_f=true){r:Bool}(h:qp s f=some r):XSpec Tryz.prog 255 [.vs s.length (F qb s),.fn (.func fk_f) [] fc_f] [] (B r) [] []:=by
  unfold qp at h;refine zc Tryz.hU Tryz.func255 (fun _ _ _ hB=> ?_);refine z.q.c.g ?_;refine zm h (fun _=>slices_IndexFunc_Attr_ok (fun h=>hf_f h) hc_f) (fun v1 _ h=> ?_);refine z.l.b4.g ?_;apply za [] hB h
theorem doc_named_ok {l:(List ze)}{n:Int}{r:Bool}(h:doc_named l n=some r):XSpec Tryz.prog 221 [.vs l.length (F zl l),I n] [] (B r) [] []:=by
  unfold doc_named at h;refine zc Tryz.hU Tryz.func221 (fun _ _ _ hB=> ?_);refine z.q.c.g ?_;refine Ql h (fun v1 _ h=> ?_);refine z.Z.h.e1.e9.d3.g ?_;refine zm h (fun _=>doc_means_ok) (fun v2 _ h=> ?_);refine z.f8.P.g ?_;refine qS (fun q5=>(.normal,⟨[(0,.vs l.length (F zl l)),(1,I n),(5,.ptr 1005 0),(49,B q5)],[(1005,.box 48 [I v1.Kind,I v1.Parent,S v1.Prefix,S v1.Local,S v1.URI,S v1.Text,.vs v1.Decls.length (F zk v1.Decls),.vs v1.Attrs.length (F qb v1.Attrs)])],[]⟩)) h (fun t h=> ?_) (fun q5 h=> ?_)
  · refine z.f6.i.g ?_;refine zb h (fun _ h=> ?_) (fun _ h=> ?_)
    · refine z.M.h4.S.e6.g ?_;exact zp [(1005,1005)] hB h
    refine z.p.i9.o3.f.g ?_;refine zb h (fun _ h=> ?_) (fun _ h=> ?_)
    · refine z.M.h4.e6.g ?_;exact zp [(1005,1005)] hB h
    refine z.H.g ?_;refine zm h (fun _=>Zt) (fun v3 _ h=> ?_);refine z.p.Y.g ?_;refine zb h (fun _ h=> ?_) (fun _ h=> ?_)
    · refine z.M.h4.n.g ?_;exact zp [(1005,1005)] hB h
    refine z.H.g ?_;refine zm h (fun _=>doc_prefix_ok) (fun v4 _ h=> ?_);refine l_to [(1005,1005)] ⟨[(0,.vs l.length (F zl l)),(1,I n),(5,.ptr 1005 0),(39,B false),(42,B v4)],[(1005,.box 48 [I v1.Kind,I v1.Parent,S v1.Prefix,S v1.Local,S v1.URI,S v1.Text,.vs v1.Decls.length (F zk v1.Decls),.vs v1.Attrs.length (F qb v1.Attrs)])],[]⟩ hB ?_;refine z.p.Y.g ?_;refine zb h (fun _ h=> ?_) (fun _ h=> ?_)
    · refine z.M.o.g ?_;exact zp [(1005,1005)] hB h
    refine z.c3.h3.g ?_;exact zp [(1005,1005)] hB h
  refine f_t ?_;refine zo h (fun _ h=> ?_) (fun _ h=> ?_)
  · refine z.a9.g ?_;apply za [] hB h
  refine z.f0.h2.e7.g ?_;refine zE (fun y6=>⟨[(0,.vs l.length (F zl l)),(1,I n),(5,.ptr 1005 0),(51,.vs v1.Attrs.length (F qb v1.Attrs)),(52,I (v1.Attrs.length:Int)),(53,I y6)],[(1005,.box 48 [I v1.Kind,I v1.Parent,S v1.Prefix,S v1.Local,S v1.URI,S v1.Text,.vs v1.Decls.length (F zk v1.Decls),.vs v1.Attrs.length (F qb v1.Attrs)])],[]⟩) (Sum.elim (fun q21=>(.ret,⟨[(4,B false)],[],[]⟩)) (fun q22=>(.exit 0,⟨[],[],[]⟩))) [(1005,1005)] hB h (fun y6 t h=> ?_) (fun q h=> ?_)
  · unfold Je at h;refine z.b7.g ?_;refine zo h (fun _ h=> ?_) (fun _ h=> ?_)
    · refine z.b.D.g ?_;refine Ql h (fun v7 _ h=> ?_);refine z.Z.h.e1.A.e9.d3.g ?_;refine zm h (fun _=>doc_means_ok) (fun v8 _ h=> ?_);refine z.e.a1.h2.b3.P.g ?_;refine zo h (fun _ h=> ?_) (fun _ h=> ?_)
      · refine z.a.h2.j.n9.g ?_;refine l_subf h (fun v9 _ h=> ?_);refine l_makeFunc ?_;refine l_callB h (fun _=>JD (fun h=>doc_named_c1_ok h) ⟨rfl,rfl⟩) (fun v10 _ h=> ?_);refine z.q.g ?_;refine zb h (fun _ h=> ?_) (fun _ h=> ?_)
        · refine z.f4.e6.S.h4.S.S.S.m.g ?_;exact zr [] hB h
        refine z.p.j8.f.g ?_;refine zb h (fun _ h=> ?_) (fun _ h=> ?_)
        · refine z.f4.e6.S.h4.S.e6.g ?_;exact zr [] hB h
        refine z.p.i9.o3.f.g ?_;refine zb h (fun _ h=> ?_) (fun _ h=> ?_)
        · refine z.f4.e6.S.h4.e6.g ?_;exact zr [] hB h
        refine z.H.g ?_;refine zm h (fun _=>Zt) (fun v11 _ h=> ?_);refine z.p.Y.g ?_;refine zb h (fun _ h=> ?_) (fun _ h=> ?_)
        · refine z.f4.e6.S.h4.n.g ?_;exact zr [] hB h
        refine z.H.g ?_;refine zm h (fun _=>doc_prefix_ok) (fun v12 _ h=> ?_);refine l_to [(1005,1005),(1009,1009)] ⟨[(0,.vs l.length (F zl l)),(1,I n),(5,.ptr 1005 0),(9,.ptr 1009 0),(51,.vs v1.Attrs.length (F qb v1.Attrs)),(52,I (v1.Attrs.length:Int)),(53,I y6),(77,B v8.2),(78,B (!v8.2)),(81,S []),(82,.ptr 1009 2),(83,S v7.URI),(84,B (!([]==v7.URI))),(87,.ptr 1009 1),(88,S v7.Local),(89,B v11),(90,B (!v11)),(92,B false),(93,.ptr 1009 0),(94,S v7.Prefix),(95,B v12)],[(1005,.box 48 [I v1.Kind,I v1.Parent,S v1.Prefix,S v1.Local,S v1.URI,S v1.Text,.vs v1.Decls.length (F zk v1.Decls),.vs v1.Attrs.length (F qb v1.Attrs)]),(1009,.box 126 [S v7.Prefix,S v7.Local,S v7.URI,S v7.Value])],[]⟩ hB ?_;refine z.p.Y.g ?_;refine zb h (fun _ h=> ?_) (fun _ h=> ?_)
        · refine z.f4.e6.S.o.g ?_;exact zr [] hB h
        refine z.p.h3.g ?_;refine zb h (fun _ h=> ?_) (fun _ h=> ?_)
        · refine z.f4.e6.n.g ?_;exact zr [] hB h
        refine z.s.h3.g ?_;refine zb h (fun _ h=> ?_) (fun _ h=> ?_)
        · refine z.p.h1.h3.g ?_;refine zb h (fun _ h=> ?_) (fun _ h=> ?_)
          · refine z.f4.n.g ?_;exact zr [] hB h
          refine z.H.g ?_;refine zm h (fun _=>Q0) (fun v13 _ h=> ?_);refine z.d4.Y.g ?_;refine zo h (fun _ h=> ?_) (fun _ h=> ?_)
          · refine z.l1.g ?_;exact zr [] hB h
          refine z.e5.g ?_;exact zt [(1005,1005)] hB h
        refine z.H.p.h6.o.g ?_;refine zm h (fun _=>Q0) (fun v14 _ h=> ?_);refine z.d4.Y.g ?_;refine zo h (fun _ h=> ?_) (fun _ h=> ?_)
        · refine z.l1.g ?_;exact zr [] hB h
        refine z.e5.g ?_;exact zt [(1005,1005)] hB h
      refine z.a.h2.K.g ?_;refine l_subf h (fun v15 _ h=> ?_);refine l_makeFunc ?_;refine l_callB h (fun _=>JD (fun h=>doc_named_c1_ok h) ⟨rfl,rfl⟩) (fun v16 _ h=> ?_);refine z.q.g ?_;refine zb h (fun _ h=> ?_) (fun _ h=> ?_)
      · refine z.f4.e6.S.h4.S.S.S.m.g ?_;exact zr [] hB h
      refine z.p.j8.f.g ?_;refine zb h (fun _ h=> ?_) (fun _ h=> ?_)
      · refine z.f4.e6.S.h4.S.e6.g ?_;exact zr [] hB h
      refine z.p.i9.o3.f.g ?_;refine zb h (fun _ h=> ?_) (fun _ h=> ?_)
      · refine z.f4.e6.S.h4.e6.g ?_;exact zr [] hB h
      refine z.H.g ?_;refine zm h (fun _=>Zt) (fun v17 _ h=> ?_);refine z.p.Y.g ?_;refine zb h (fun _ h=> ?_) (fun _ h=> ?_)
      · refine z.f4.e6.S.h4.n.g ?_;exact zr [] hB h
      refine z.H.g ?_;refine zm h (fun _=>doc_prefix_ok) (fun v18 _ h=> ?_);refine l_to [(1005,1005),(1009,1009)] ⟨[(0,.vs l.length (F zl l)),(1,I n),(5,.ptr 1005 0),(9,.ptr 1009 0),(51,.vs v1.Attrs.length (F qb v1.Attrs)),(52,I (v1.Attrs.length:Int)),(53,I y6),(77,B v8.2),(78,B (!v8.2)),(81,S v8.1),(82,.ptr 1009 2),(83,S v7.URI),(84,B (!(v8.1==v7.URI))),(87,.ptr 1009 1),(88,S v7.Local),(89,B v17),(90,B (!v17)),(92,B false),(93,.ptr 1009 0),(94,S v7.Prefix),(95,B v18)],[(1005,.box 48 [I v1.Kind,I v1.Parent,S v1.Prefix,S v1.Local,S v1.URI,S v1.Text,.vs v1.Decls.length (F zk v1.Decls),.vs v1.Attrs.length (F qb v1.Attrs)]),(1009,.box 126 [S v7.Prefix,S v7.Local,S v7.URI,S v7.Value])],[]⟩ hB ?_;refine z.p.Y.g ?_;refine zb h (fun _ h=> ?_) (fun _ h=> ?_)
      · refine z.f4.e6.S.o.g ?_;exact zr [] hB h
      refine z.p.h3.g ?_;refine zb h (fun _ h=> ?_) (fun _ h=> ?_)
      · refine z.f4.e6.n.g ?_;exact zr [] hB h
      refine z.s.h3.g ?_;refine zb h (fun _ h=> ?_) (fun _ h=> ?_)
      · refine z.p.h1.h3.g ?_;refine zb h (fun _ h=> ?_) (fun _ h=> ?_)
        · refine z.f4.n.g ?_;exact zr [] hB h
        refine z.H.g ?_;refine zm h (fun _=>Q0) (fun v19 _ h=> ?_);refine z.d4.Y.g ?_;refine zo h (fun _ h=> ?_) (fun _ h=> ?_)
        · refine z.l1.g ?_;exact zr [] hB h
        refine z.e5.g ?_;exact zt [(1005,1005)] hB h
      refine z.H.p.h6.o.g ?_;refine zm h (fun _=>Q0) (fun v20 _ h=> ?_);refine z.d4.Y.g ?_;refine zo h (fun _ h=> ?_) (fun _ h=> ?_)
      · refine z.l1.g ?_;exact zr [] hB h
      refine z.e5.g ?_;exact zt [(1005,1005)] hB h
    refine z.k.g ?_;exact zr [] hB h
  rcases q with q21|q22
  · dsimp only [Sum.elim] at h ⊢
    refine z.a3.g ?_;apply za [] hB h
  dsimp only [Sum.elim] at h ⊢
  refine z.b2.R.g ?_;apply za [] hB h
theorem JX {s:Str}{suffix:Str}{r:Bool}(h:qJ s suffix=some r):XSpec Tryz.prog 257 [S s,S suffix] [] (B r) [] []:=by
  unfold qJ at h;refine zc Tryz.hU Tryz.func257 (fun _ _ _ hB=> ?_);refine z.v.V.a.V.a7.g ?_;refine zb h (fun _ h=> ?_) (fun _ h=> ?_)
  · refine z.b6.T.b6.V.f.V.f.s.g ?_;refine Za h (fun v1 _ h=> ?_);refine z.b5.a1.f.g ?_;apply za [] hB h
  refine z.c0.c2.j0.g ?_;apply za [] hB h
theorem strings_HasSuffix_ok {s:Str}{suffix:Str}{r:Bool}(h:ZH s suffix=some r):XSpec Tryz.prog 223 [S s,S suffix] [] (B r) [] []:=by
  unfold ZH at h;refine zc Tryz.hU Tryz.func223 (fun _ _ _ hB=> ?_);refine z.q.c.g ?_;refine zm h (fun _=>JX) (fun v1 _ h=> ?_);refine z.l.g ?_;apply za [] hB h
theorem doc_target_ok {s:Str}{r:Bool}(h:zaa s=some r):XSpec Tryz.prog 224 [S s] [] (B r) [] []:=by
  unfold zaa at h;refine zc Tryz.hU Tryz.func224 (fun _ _ _ hB=> ?_);refine z.v.V.a7.g ?_;refine zb h (fun _ h=> ?_) (fun _ h=> ?_)
  · refine z.f.g ?_;refine Z1 h (fun v1 _ h=> ?_);refine z.s.c6.g ?_;refine zb h (fun _ h=> ?_) (fun _ h=> ?_)
    · refine z.f.a4.h1.o.g ?_;refine Z1 h (fun v2 _ h=> ?_);refine z.s.c6.g ?_;refine zb h (fun _ h=> ?_) (fun _ h=> ?_)
      · refine z.f.a4.h1.o.g ?_;refine Z1 h (fun v3 _ h=> ?_);refine z.s.c6.g ?_;refine zb h (fun _ h=> ?_) (fun _ h=> ?_)
        · refine z.b5.h1.o.g ?_;apply za [] hB h
        refine z.f.g ?_;refine Z1 h (fun v4 _ h=> ?_);refine z.b5.h6.c6.g ?_;apply za [] hB h
      refine z.f.g ?_;refine Z1 h (fun v5 _ h=> ?_);refine z.a4.h6.c6.g ?_;refine zb h (fun _ h=> ?_) (fun _ h=> ?_)
      · refine z.f.g ?_;refine Z1 h (fun v6 _ h=> ?_);refine z.s.c6.g ?_;refine zb h (fun _ h=> ?_) (fun _ h=> ?_)
        · refine z.b5.h1.o.g ?_;apply za [] hB h
        refine z.f.g ?_;refine Z1 h (fun v7 _ h=> ?_);refine z.b5.h6.c6.g ?_;apply za [] hB h
      refine z.c0.j0.g ?_;apply za [] hB h
    refine z.f.g ?_;refine Z1 h (fun v8 _ h=> ?_);refine z.a4.h6.c6.g ?_;refine zb h (fun _ h=> ?_) (fun _ h=> ?_)
    · refine z.f.g ?_;refine Z1 h (fun v9 _ h=> ?_);refine z.s.c6.g ?_;refine zb h (fun _ h=> ?_) (fun _ h=> ?_)
      · refine z.f.a4.h1.o.g ?_;refine Z1 h (fun v10 _ h=> ?_);refine z.s.c6.g ?_;refine zb h (fun _ h=> ?_) (fun _ h=> ?_)
        · refine z.b5.h1.o.g ?_;apply za [] hB h
        refine z.f.g ?_;refine Z1 h (fun v11 _ h=> ?_);refine z.b5.h6.c6.g ?_;apply za [] hB h
      refine z.f.g ?_;refine Z1 h (fun v12 _ h=> ?_);refine z.a4.h6.c6.g ?_;refine zb h (fun _ h=> ?_) (fun _ h=> ?_)
      · refine z.f.g ?_;refine Z1 h (fun v13 _ h=> ?_);refine z.s.c6.g ?_;refine zb h (fun _ h=> ?_) (fun _ h=> ?_)
        · refine z.b5.h1.o.g ?_;apply za [] hB h
        refine z.f.g ?_;refine Z1 h (fun v14 _ h=> ?_);refine z.b5.h6.c6.g ?_;apply za [] hB h
      refine z.c0.j0.g ?_;apply za [] hB h
    refine z.c0.j0.p.j0.g ?_;apply za [] hB h
  refine z.c0.j0.p.j0.p.j0.g ?_;apply za [] hB h
end Go.Proofs.YtojbjdcflgeibaaGreatDoor
