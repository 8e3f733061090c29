/- WALKS, printed by aw.py: that the program's functions compute the plain ones. Conditions: none. -/
import Derived.Test.YtojbjdcflgeibaaGreatDoorQWalk1
set_option linter.unusedVariables false
set_option linter.unusedSimpArgs false
set_option maxRecDepth 20000
set_option maxHeartbeats 4000000
namespace Go.Proofs.YtojbjdcflgeibaaGreatDoor
open Go Go.Abs W G
theorem chars_number_ok {s:Str}{base:Int}{r:Int×Bool}(h:JW s base=some r):XSpec Tryz.prog 267 [S s,.pl (.int .i32 base)] [] (.tup [.pl (.int .i32 r.1),B r.2]) [] []:=by
 unfold JW at h;refine zc Tryz.hU Tryz.func267 (fun _ _ _ hB=> ?_);refine z.p9.a3.d6.o.a7.g ?_;refine zF (fun y1=>⟨[(0,S s),(1,.pl (.int .i32 base)),(6,.pl (.int .i32 y1.1)),(11,I (s.length:Int)),(12,I y1.2)],[],[]⟩) (Sum.elim (fun q5=>(.ret,⟨[(4,.pl (.int .i32 0)),(5,B false)],[],[]⟩)) (fun q6=>(.exit 0,⟨[(0,S s),(6,.pl (.int .i32 q6))],[],[]⟩))) [] hB h (fun y1 t h=> ?_) (fun q h=> ?_)
 ·unfold qh at h;refine z.a8.g ?_;refine zn h (fun _ h=> ?_) (fun _ h=> ?_)
  ·refine z.O.j7.g ?_;refine QI h (fun v2 _ h=> ?_);refine z.T.c6.b1.w.h9.g ?_;refine qQ (fun q3=>(.normal,⟨[(0,S s),(1,.pl (.int .i32 base)),(6,.pl (.int .i32 y1.1)),(8,.pl (.int .i32 (w32 (v2.toNat:Int)))),(9,.pl (.int .i32 base)),(11,I (s.length:Int)),(12,I y1.2),(20,B q3)],[],[]⟩)) h (fun t h=> ?_) (fun q3 h=> ?_)
   ·refine z.l8.g ?_;refine zd h (fun _ h=> ?_) (fun _ h=> ?_)
    ·refine z.s.c4.r.g ?_;exact zq [] hB h
    refine z.s.f5.g ?_;exact zq [] hB h
   refine f_t ?_;refine zn h (fun _ h=> ?_) (fun _ h=> ?_)
   ·refine z.i0.f0.s.R.m.g ?_;refine zn h (fun _ h=> ?_) (fun _ h=> ?_)
    ·refine z.B.U.g ?_;exact zr [] hB h
    refine z.e4.s.p0.c9.a.n4.y.M.g ?_;exact zu [] hB h
   refine zaE ?_;refine qQ (fun q4=>(.normal,⟨[(0,S s),(1,.pl (.int .i32 base)),(6,.pl (.int .i32 y1.1)),(8,.pl (.int .i32 (w32 (v2.toNat:Int)))),(9,.pl (.int .i32 base)),(11,I (s.length:Int)),(12,I y1.2),(29,B q4)],[],[]⟩)) h (fun t h=> ?_) (fun q4 h=> ?_)
   ·refine z.l8.g ?_;refine zd h (fun _ h=> ?_) (fun _ h=> ?_)
    ·refine z.s.c4.r.g ?_;exact zq [] hB h
    refine z.s.f5.g ?_;exact zq [] hB h
   refine f_t ?_;refine zn h (fun _ h=> ?_) (fun _ h=> ?_)
   ·refine z.i0.f0.l9.R.m.g ?_;refine zn h (fun _ h=> ?_) (fun _ h=> ?_)
    ·refine z.B.U.g ?_;exact zr [] hB h
    refine z.e4.s.p0.c9.a.n4.y.M.g ?_;exact zu [] hB h
   refine z.F.b.g ?_;refine zd h (fun _ h=> ?_) (fun _ h=> ?_)
   ·refine z.o.c4.r.g ?_;refine zn h (fun _ h=> ?_) (fun _ h=> ?_)
    ·refine z.i0.f0.l9.R.m.g ?_;refine zn h (fun _ h=> ?_) (fun _ h=> ?_)
     ·refine z.B.U.g ?_;exact zr [] hB h
     refine z.e4.s.p0.c9.a.n4.y.M.g ?_;exact zu [] hB h
    refine z.i0.f0.Q.g ?_;refine zn h (fun _ h=> ?_) (fun _ h=> ?_)
    ·refine z.B.U.g ?_;exact zr [] hB h
    refine z.e4.s.p0.c9.a.n4.y.M.g ?_;exact zu [] hB h
   refine z.i0.f0.Q.i4.o.f5.g ?_;refine zn h (fun _ h=> ?_) (fun _ h=> ?_)
   ·refine z.B.U.g ?_;exact zr [] hB h
   refine z.e4.s.p0.c9.a.n4.y.M.g ?_;exact zu [] hB h
  refine z.l.g ?_;exact zr [] hB h
 rcases q with q5|q6
 ·dsimp only [Sum.elim] at h ⊢
  refine z.B.g ?_;apply za [] hB h
 dsimp only [Sum.elim] at h ⊢
 refine z.N.j5.i.c2.g ?_;apply za [] hB h
theorem utf8_ValidRune_ok {r_:Int}{r:Bool}(h:zas r_=some r):XSpec Tryz.prog 277 [.pl (.int .i32 r_)] [] (B r) [] []:=by
 unfold zas at h;refine zc Tryz.hU Tryz.func277 (fun _ _ _ hB=> ?_);refine z.F.b.c6.k4.g ?_;refine zd h (fun _ h=> ?_) (fun _ h=> ?_)
 ·refine z.o.c4.r.g ?_;refine zn h (fun _ h=> ?_) (fun _ h=> ?_)
  ·refine z.j8.g ?_;apply za [] hB h
  refine z.F.b.g ?_;refine zd h (fun _ h=> ?_) (fun _ h=> ?_)
  ·refine z.o.c4.r.g ?_;refine zn h (fun _ h=> ?_) (fun _ h=> ?_)
   ·refine z.j8.g ?_;apply za [] hB h
   refine z.e1.f0.Q.g ?_;apply za [] hB h
  refine z.e1.f0.Q.i4.o.f5.g ?_;apply za [] hB h
 refine z.F.b.i4.o.f5.g ?_;refine zd h (fun _ h=> ?_) (fun _ h=> ?_)
 ·refine z.o.c4.r.g ?_;refine zn h (fun _ h=> ?_) (fun _ h=> ?_)
  ·refine z.j8.g ?_;apply za [] hB h
  refine z.e1.f0.Q.g ?_;apply za [] hB h
 refine z.e1.f0.Q.i4.o.f5.g ?_;apply za [] hB h
theorem utf8_appendRuneNonASCII_ok {p:Str}{r_:Int}{r:Str}(h:Qc p r_=some r):XSpec Tryz.prog 285 [.sl 101 0 p.length,.pl (.int .i32 r_)] [(101,.row 5 1 0 (F cU p))] (.sl 101 0 r.length) [(101,.row 5 1 0 (F cU r))] [101]:=by
 unfold Qc at h;refine zc Tryz.hU Tryz.func285 (fun _ _ _ hB=> ?_);refine z.d2.b.h8.h9.a1.g ?_;refine zn h (fun _ h=> ?_) (fun _ h=> ?_)
 ·refine z.i.g ?_;refine QV (r:=(r_.fdiv (2^6))) ?_;refine z.m1.i3.a.i3.g ?_;refine Z6 (e:=cU) [(u8 (bor 8 192 ((u8 (r_.fdiv (2^6))).toNat:Int))),(u8 (bor 8 128 ((u8 (band 8 ((u8 r_).toNat:Int) 63)).toNat:Int)))] ?_;refine Jp h (fun v1 _ h=> ?_);refine z.C.h.g ?_;apply za [(101,101)] hB h
 refine z.d2.V.g ?_;refine zn h (fun _ h=> ?_) (fun _ h=> ?_)
 ·refine z.M.g ?_;refine zn h (fun _ h=> ?_) (fun _ h=> ?_)
  ·refine z.i.g ?_;refine QV (r:=(r_.fdiv (2^12))) ?_;refine z.a.i3.g ?_;refine QV (r:=(r_.fdiv (2^6))) ?_;refine z.m1.i3.a.m1.i3.g ?_;refine Z6 (e:=cU) [(u8 (bor 8 224 ((u8 (r_.fdiv (2^12))).toNat:Int))),(u8 (bor 8 128 ((u8 (band 8 ((u8 (r_.fdiv (2^6))).toNat:Int) 63)).toNat:Int))),(u8 (bor 8 128 ((u8 (band 8 ((u8 r_).toNat:Int) 63)).toNat:Int)))] ?_;refine Jp h (fun v2 _ h=> ?_);refine z.C.h.g ?_;apply za [(101,101)] hB h
  refine zaE ?_;refine qQ (fun q3=>(.normal,⟨[(0,.sl 101 0 p.length),(1,.pl (.int .i32 r_)),(50,B q3)],[(101,.row 5 1 0 (F cU p))],[]⟩)) h (fun t h=> ?_) (fun q3 h=> ?_)
  ·refine z.l8.g ?_;refine zd h (fun _ h=> ?_) (fun _ h=> ?_)
   ·refine z.s.c4.r.g ?_;exact zq [(101,101)] hB h
   refine z.s.f5.g ?_;exact zq [(101,101)] hB h
  refine f_t ?_;refine zn h (fun _ h=> ?_) (fun _ h=> ?_)
  ·refine z.i.g ?_;refine QV (r:=(r_.fdiv (2^18))) ?_;refine z.a.i3.g ?_;refine QV (r:=(r_.fdiv (2^12))) ?_;refine z.a.m1.i3.g ?_;refine QV (r:=(r_.fdiv (2^6))) ?_;refine z.m1.i3.a.m1.i3.g ?_;refine Z6 (e:=cU) [(u8 (bor 8 240 ((u8 (r_.fdiv (2^18))).toNat:Int))),(u8 (bor 8 128 ((u8 (band 8 ((u8 (r_.fdiv (2^12))).toNat:Int) 63)).toNat:Int))),(u8 (bor 8 128 ((u8 (band 8 ((u8 (r_.fdiv (2^6))).toNat:Int) 63)).toNat:Int))),(u8 (bor 8 128 ((u8 (band 8 ((u8 r_).toNat:Int) 63)).toNat:Int)))] ?_;refine Jp h (fun v4 _ h=> ?_);refine z.C.h.g ?_;apply za [(101,101)] hB h
  refine z.b.g ?_;refine Z6 (e:=cU) [239,191,189] ?_;refine Jp h (fun v5 _ h=> ?_);refine z.C.h.g ?_;apply za [(101,101)] hB h
 refine z.l8.g ?_;refine zd h (fun _ h=> ?_) (fun _ h=> ?_)
 ·refine z.o.c4.r.g ?_;refine zn h (fun _ h=> ?_) (fun _ h=> ?_)
  ·refine z.i.g ?_;refine QV (r:=(r_.fdiv (2^12))) ?_;refine z.a.i3.g ?_;refine QV (r:=(r_.fdiv (2^6))) ?_;refine z.m1.i3.a.m1.i3.g ?_;refine Z6 (e:=cU) [(u8 (bor 8 224 ((u8 (r_.fdiv (2^12))).toNat:Int))),(u8 (bor 8 128 ((u8 (band 8 ((u8 (r_.fdiv (2^6))).toNat:Int) 63)).toNat:Int))),(u8 (bor 8 128 ((u8 (band 8 ((u8 r_).toNat:Int) 63)).toNat:Int)))] ?_;refine Jp h (fun v6 _ h=> ?_);refine z.C.h.g ?_;apply za [(101,101)] hB h
  refine zaE ?_;refine qQ (fun q7=>(.normal,⟨[(0,.sl 101 0 p.length),(1,.pl (.int .i32 r_)),(50,B q7)],[(101,.row 5 1 0 (F cU p))],[]⟩)) h (fun t h=> ?_) (fun q7 h=> ?_)
  ·refine z.l8.g ?_;refine zd h (fun _ h=> ?_) (fun _ h=> ?_)
   ·refine z.s.c4.r.g ?_;exact zq [(101,101)] hB h
   refine z.s.f5.g ?_;exact zq [(101,101)] hB h
  refine f_t ?_;refine zn h (fun _ h=> ?_) (fun _ h=> ?_)
  ·refine z.i.g ?_;refine QV (r:=(r_.fdiv (2^18))) ?_;refine z.a.i3.g ?_;refine QV (r:=(r_.fdiv (2^12))) ?_;refine z.a.m1.i3.g ?_;refine QV (r:=(r_.fdiv (2^6))) ?_;refine z.m1.i3.a.m1.i3.g ?_;refine Z6 (e:=cU) [(u8 (bor 8 240 ((u8 (r_.fdiv (2^18))).toNat:Int))),(u8 (bor 8 128 ((u8 (band 8 ((u8 (r_.fdiv (2^12))).toNat:Int) 63)).toNat:Int))),(u8 (bor 8 128 ((u8 (band 8 ((u8 (r_.fdiv (2^6))).toNat:Int) 63)).toNat:Int))),(u8 (bor 8 128 ((u8 (band 8 ((u8 r_).toNat:Int) 63)).toNat:Int)))] ?_;refine Jp h (fun v8 _ h=> ?_);refine z.C.h.g ?_;apply za [(101,101)] hB h
  refine z.b.g ?_;refine Z6 (e:=cU) [239,191,189] ?_;refine Jp h (fun v9 _ h=> ?_);refine z.C.h.g ?_;apply za [(101,101)] hB h
 refine z.T.i4.o.f5.g ?_;refine qQ (fun q10=>(.normal,⟨[(0,.sl 101 0 p.length),(1,.pl (.int .i32 r_)),(50,B q10)],[(101,.row 5 1 0 (F cU p))],[]⟩)) h (fun t h=> ?_) (fun q10 h=> ?_)
 ·refine z.l8.g ?_;refine zd h (fun _ h=> ?_) (fun _ h=> ?_)
  ·refine z.s.c4.r.g ?_;exact zq [(101,101)] hB h
  refine z.s.f5.g ?_;exact zq [(101,101)] hB h
 refine f_t ?_;refine zn h (fun _ h=> ?_) (fun _ h=> ?_)
 ·refine z.i.g ?_;refine QV (r:=(r_.fdiv (2^18))) ?_;refine z.a.i3.g ?_;refine QV (r:=(r_.fdiv (2^12))) ?_;refine z.a.m1.i3.g ?_;refine QV (r:=(r_.fdiv (2^6))) ?_;refine z.m1.i3.a.m1.i3.g ?_;refine Z6 (e:=cU) [(u8 (bor 8 240 ((u8 (r_.fdiv (2^18))).toNat:Int))),(u8 (bor 8 128 ((u8 (band 8 ((u8 (r_.fdiv (2^12))).toNat:Int) 63)).toNat:Int))),(u8 (bor 8 128 ((u8 (band 8 ((u8 (r_.fdiv (2^6))).toNat:Int) 63)).toNat:Int))),(u8 (bor 8 128 ((u8 (band 8 ((u8 r_).toNat:Int) 63)).toNat:Int)))] ?_;refine Jp h (fun v11 _ h=> ?_);refine z.C.h.g ?_;apply za [(101,101)] hB h
 refine z.b.g ?_;refine Z6 (e:=cU) [239,191,189] ?_;refine Jp h (fun v12 _ h=> ?_);refine z.C.h.g ?_;apply za [(101,101)] hB h
theorem utf8_AppendRune_ok {p:Str}{r_:Int}{r:Str}(h:J3 p r_=some r):XSpec Tryz.prog 278 [.sl 101 0 p.length,.pl (.int .i32 r_)] [(101,.row 5 1 0 (F cU p))] (.sl 101 0 r.length) [(101,.row 5 1 0 (F cU r))] [101]:=by
 unfold J3 at h;refine zc Tryz.hU Tryz.func278 (fun _ _ _ hB=> ?_);refine z.q.h9.d6.g ?_;refine zn h (fun _ h=> ?_) (fun _ h=> ?_)
 ·refine z.q5.i.g ?_;refine Z6 (e:=cU) [(u8 r_)] ?_;refine Jp h (fun v1 _ h=> ?_);refine z.h4.h.g ?_;apply za [(101,101)] hB h
 refine z.h5.g ?_;refine zg [] [101] h (fun _=>utf8_appendRuneNonASCII_ok) (fun v2 _ h=> ?_);refine z.h.g ?_;apply za [(101,101)] hB h
theorem utf_Bytes_ok {l:(List Int)}{r:Str×Bool}(h:utf_Bytes l=some r):XSpec Tryz.prog 268 [.vs l.length (F cR l)] [] (.tup [.sl 1 0 r.1.length,B r.2]) [(1,.row 5 1 0 (F cU r.1))] []:=by
 unfold utf_Bytes at h;refine zc Tryz.hU Tryz.func268 (fun _ _ _ hB=> ?_);refine z.d3.d6.o.a7.g ?_;refine k_nilrow (te:=5) (t:=4) 3004 1 ?_;refine zF (fun y1=>⟨[(4,.sl 3004 0 y1.2.length),(7,.vs l.length (F cR l)),(8,I (l.length:Int)),(9,I y1.1)],[(3004,.row 5 1 0 (F cU y1.2))],[]⟩) (Sum.elim (fun q5=>(.ret,⟨[(2,.pl (.slice none 0 0)),(3,B false)],[],[]⟩)) (fun q6=>(.exit 0,⟨[(4,.sl 3004 0 q6.length)],[(3004,.row 5 1 0 (F cU q6))],[]⟩))) [(3004,3004)] hB h (fun y1 t h=> ?_) (fun q h=> ?_)
 ·unfold utf_Bytes_b1 at h;refine z.a8.g ?_;refine zn h (fun _ h=> ?_) (fun _ h=> ?_)
  ·refine z.c.W.g ?_;refine Qh h (fun v2 _ h=> ?_);refine z.J.h7.g ?_;refine zo h (fun _=>utf8_ValidRune_ok) (fun v3 _ h=> ?_);refine z.d4.g ?_;refine zn h (fun _ h=> ?_) (fun _ h=> ?_)
   ·refine z.B.U.g ?_;exact zr [] hB h
   refine z.y.M.g ?_;refine zg [(101,3004)] [3004] h (fun _=>utf8_AppendRune_ok) (fun v4 _ h=> ?_);refine z.e4.s.g ?_;exact zu [(3004,3004)] hB h
  refine z.l.g ?_;exact zr [(3004,3004)] hB h
 rcases q with q5|q6
 ·dsimp only [Sum.elim] at h ⊢
  refine z.B.g ?_;refine Jv (te:=5) (t:=2) 3002 1 ?_;apply za [(3002,1)] hB h
 dsimp only [Sum.elim] at h ⊢
 refine z.N.k7.g ?_;apply za [(3004,1)] hB h
theorem zaJ {s:Str}{r:Str×Bool}(h:Q2 s=some r):XSpec Tryz.prog 250 [S s] [] (.tup [S r.1,B r.2]) [] []:=by
 unfold Q2 at h;refine zc Tryz.hU Tryz.func250 (fun _ _ _ hB=> ?_);refine z.w.a7.g ?_;refine zo h (fun _=>zak) (fun v1 _ h=> ?_);refine z.d4.J.b7.g ?_;refine zn h (fun _ h=> ?_) (fun _ h=> ?_)
 ·refine z.b.g ?_;refine zo h (fun _=>chars_named_ok) (fun v2 _ h=> ?_);refine z.h3.o0.g ?_;apply za [] hB h
 refine z.d6.M.g ?_;refine zo h (fun _=>zak) (fun v3 _ h=> ?_);refine z.e.w.b7.g ?_;refine zn h (fun _ h=> ?_) (fun _ h=> ?_)
 ·refine z.O.D.m.g ?_;refine zo h (fun _=>chars_number_ok) (fun v4 _ h=> ?_);refine z.f8.J.b7.g ?_;refine zd h (fun _ h=> ?_) (fun _ h=> ?_)
  ·refine z.U.f9.k.g ?_;apply za [] hB h
  refine z.f.g ?_;refine zo h (fun _=>utf_Xml_ok) (fun v5 _ h=> ?_);refine z.c5.Z.g ?_;refine zn h (fun _ h=> ?_) (fun _ h=> ?_)
  ·refine z.U.g ?_;apply za [] hB h
  refine z.t.g ?_;refine Z6 (e:=cR) [v4.1] ?_;refine l_frz 1044 ?_;refine zg [(1,104501)] [] h (fun _=>utf_Bytes_ok) (fun v6 _ h=> ?_);refine z.N.a.q0.w.b7.g ?_;apply za [] hB h
 refine z.h5.g ?_;refine zo h (fun _=>chars_number_ok) (fun v7 _ h=> ?_);refine z.f8.J.b7.g ?_;refine zd h (fun _ h=> ?_) (fun _ h=> ?_)
 ·refine z.U.f9.k.g ?_;apply za [] hB h
 refine z.f.g ?_;refine zo h (fun _=>utf_Xml_ok) (fun v8 _ h=> ?_);refine z.c5.Z.g ?_;refine zn h (fun _ h=> ?_) (fun _ h=> ?_)
 ·refine z.U.g ?_;apply za [] hB h
 refine z.t.g ?_;refine Z6 (e:=cR) [v7.1] ?_;refine l_frz 1044 ?_;refine zg [(1,104501)] [] h (fun _=>utf_Bytes_ok) (fun v9 _ h=> ?_);refine z.N.a.q0.w.b7.g ?_;apply za [] hB h
theorem chars_expand_ok {s:Str}{plain:(Str→Option Str)}{fk_plain:Nat}{fc_plain:List AV}(hf_plain: ∀ {x0:Str} {r:Str},plain x0=some r→XSpec Tryz.prog fk_plain ((S x0)::fc_plain) [] (S r) [] [])(hc_plain:AV.closedL fc_plain=true∧AV.onlyL [] fc_plain=true){r:Str×Bool}(h:chars_expand s plain=some r):XSpec Tryz.prog 218 [S s,.fn (.func fk_plain) [] fc_plain] [] (.tup [S r.1,B r.2]) [] []:=by
 unfold chars_expand at h;refine zc Tryz.hU Tryz.func218 (fun _ _ _ hB=> ?_);refine z.f3.a7.g ?_;refine qQ (fun q3=>(.normal,⟨[(0,S s),(1,.fn (.func fk_plain) [] fc_plain),(22,B q3)],[],[]⟩)) h (fun t h=> ?_) (fun q3 h=> ?_)
 ·refine z.o9.m.g ?_;refine l_callB h (fun _=>utf_Text_ok) (fun v1 _ h=> ?_);refine z.f8.g ?_;refine zd h (fun _ h=> ?_) (fun _ h=> ?_)
  ·refine z.P.n.g ?_;exact zq [] hB h
  refine z.f.g ?_;refine zo h (fun _=>ZN) (fun v2 _ h=> ?_);refine l_to [] ⟨[(0,S s),(1,.fn (.func fk_plain) [] fc_plain),(19,B false),(21,B v2)],[],[]⟩ hB ?_;refine z.c8.g ?_;exact zq [] hB h
 refine f_t ?_;refine zn h (fun _ h=> ?_) (fun _ h=> ?_)
 ·refine z.U.g ?_;apply za [] hB h
 refine z.m4.d1.c.M.g ?_;refine k_npcell (b:=1006) (j:=0) 1006 0 ?_;refine zF (Sum.elim (fun (y4:Unit)=>⟨[(0,S s),(1,.fn (.func fk_plain) [] fc_plain),(6,.ptr 1006 0)],[(1006,.box 102 [.nptr true 1006 0,.pl (.slice none 0 0)])],[]⟩) (fun (y4:Str×Str)=>⟨[(0,S y4.1),(1,.fn (.func fk_plain) [] fc_plain),(6,.ptr 1006 0)],[(1006,.box 102 [.nptr false 1006 0,.sl 13061 0 y4.2.length]),(13061,.row 5 1 0 (F cU y4.2))],[13061]⟩)) (fun q19=>(.ret,⟨[(4,S q19.1),(5,B q19.2)],[],[13061]⟩)) [(1006,1006)] hB h (fun y4 t h=> ?_) (fun q19 h=> ?_)
 ·unfold qA at h
  rcases y4 with y4|y4
  ·dsimp only [Sum.elim] at h ⊢
   refine z.b.c6.g ?_;refine zo h (fun _=>Zk) (fun v5 _ h=> ?_);refine z.O.D.D.l0.k8.g ?_;refine l_callF hc_plain h (fun _=>hf_plain) (fun v6 _ h=> ?_);refine l_nilcell (te:=5) (b1:=1006) (j:=1) 13061 1 ?_;refine zg [(4000101,1006),(4000102,13061)] [1006,13061] h (fun _=>zj) (fun v7 _ h=> ?_);refine z.d4.V.e.g ?_;refine zn h (fun _ h=> ?_) (fun _ h=> ?_)
   ·refine z.c.g ?_;refine zg [(6000101,1006),(6000102,13061)] [1006,13061] h (fun _=>zO) (fun v8 _ h=> ?_);refine z.C.h3.g ?_;exact zr [] hB h
   refine z.t.g ?_;refine zo h (fun _=>Zk) (fun v9 _ h=> ?_);refine z.w.D.D.l0.k8.g ?_;refine zo h (fun _=>zaJ) (fun v10 _ h=> ?_);refine z.f8.J.b7.g ?_;refine zd h (fun _ h=> ?_) (fun _ h=> ?_)
   ·refine z.C.U.f9.n.g ?_;exact zr [] hB h
   refine z.c5.i8.f.g ?_;refine zn h (fun _ h=> ?_) (fun _ h=> ?_)
   ·refine z.C.U.g ?_;exact zr [] hB h
   refine z.t.g ?_;refine zg [(4000101,1006),(4000102,13061)] [1006,13061] h (fun _=>zj) (fun v11 _ h=> ?_);refine z.j1.m.e.g ?_;exact zu [(1006,1006),(13061,13061)] hB h
  dsimp only [Sum.elim] at h ⊢
  refine z.b.c6.g ?_;refine zo h (fun _=>Zk) (fun v12 _ h=> ?_);refine z.O.D.D.l0.k8.g ?_;refine l_callF hc_plain h (fun _=>hf_plain) (fun v13 _ h=> ?_);refine zg [(4000101,1006),(4000102,13061)] [1006,13061] h (fun _=>zj) (fun v14 _ h=> ?_);refine z.d4.V.e.g ?_;refine zn h (fun _ h=> ?_) (fun _ h=> ?_)
  ·refine z.c.g ?_;refine zg [(6000101,1006),(6000102,13061)] [1006,13061] h (fun _=>zO) (fun v15 _ h=> ?_);refine z.C.h3.g ?_;exact zr [] hB h
  refine z.t.g ?_;refine zo h (fun _=>Zk) (fun v16 _ h=> ?_);refine z.w.D.D.l0.k8.g ?_;refine zo h (fun _=>zaJ) (fun v17 _ h=> ?_);refine z.f8.J.b7.g ?_;refine zd h (fun _ h=> ?_) (fun _ h=> ?_)
  ·refine z.C.U.f9.n.g ?_;exact zr [] hB h
  refine z.c5.i8.f.g ?_;refine zn h (fun _ h=> ?_) (fun _ h=> ?_)
  ·refine z.C.U.g ?_;exact zr [] hB h
  refine z.t.g ?_;refine zg [(4000101,1006),(4000102,13061)] [1006,13061] h (fun _=>zj) (fun v18 _ h=> ?_);refine z.j1.m.e.g ?_;exact zu [(1006,1006),(13061,13061)] hB h
 refine f_br ?_;apply za [] hB h
theorem strings_NewReplacer_s1_ok {u1:(List Str)}{r:(List Str)}(h:ZJ u1=some r):XSpec Tryz.prog 247 [.sl 7000101 0 u1.length] [(7000101,.row 9 1 0 (F cS u1))] (.ptr 7000151 0) [(7000101,.row 9 1 0 (F cS u1)),(7000151,.box 260 [.pl (.int .u32 0),.pl (.int .i32 0),.pl (.int .u32 0),.pl .nilIface,.sl 7000152 0 r.length]),(7000152,.row 9 1 0 (F cS r))] []:=by
 unfold ZJ at h;refine zc Tryz.hU Tryz.func247 (fun _ _ _ hB=> ?_);refine z.q.s9.I.d6.g ?_;refine zn h (fun _ h=> ?_) (fun _ h=> ?_)
 ·refine k_reg ?_
  cases h
 refine z.t.g ?_;refine l_appc h (fun v1 _ h=> ?_);refine z.h.p1.f1.g ?_;apply za [(7000101,7000101),(1011,7000151),(1009,7000152)] hB h
theorem atomic_Bool_Load_s1_ok {u1:(List Str)}{r:Unit}(h:Jk u1=some r):XSpec Tryz.prog 274 [.ptr 11000101 0] [(11000101,.box 260 [.pl (.int .u32 0),.pl (.int .i32 0),.pl (.int .u32 0),.pl .nilIface,.sl 11000102 0 u1.length]),(11000102,.row 9 1 0 (F cS u1))] (B false) [(11000101,.box 260 [.pl (.int .u32 0),.pl (.int .i32 0),.pl (.int .u32 0),.pl .nilIface,.sl 11000102 0 u1.length]),(11000102,.row 9 1 0 (F cS u1))] []:=by
 unfold Jk at h;refine zc Tryz.hU Tryz.func274 (fun _ _ _ hB=> ?_);refine z.c0.a1.g ?_;refine l_aload Tryz.func279 ?_;refine z.h.d7.g ?_;apply za [(11000101,11000101),(11000102,11000102)] hB h
theorem sync_Mutex_Lock_s1_ok {u1:(List Str)}{r:Unit}(h:JP u1=some r):XSpec Tryz.prog 286 [.ptr 14000101 1] [(14000101,.box 260 [.pl (.int .u32 0),.pl (.int .i32 0),.pl (.int .u32 0),.pl .nilIface,.sl 14000102 0 u1.length]),(14000102,.row 9 1 0 (F cS u1))] (.tup []) [(14000101,.box 260 [.pl (.int .u32 0),.pl (.int .i32 1),.pl (.int .u32 0),.pl .nilIface,.sl 14000102 0 u1.length]),(14000102,.row 9 1 0 (F cS u1))] []:=by
 unfold JP at h;refine zc Tryz.hU Tryz.func286 (fun _ _ _ hB=> ?_);refine z.c.g ?_;refine l_nat (race0_spec Tryz.func292) ?_;refine z.c0.V.e.g ?_;refine l_acas Tryz.func293 ?_;refine z.c.e8.T.e8.e.g ?_;refine l_nat (race0_spec Tryz.func294) ?_;refine z.p5.m.e.g ?_;refine l_nat (race1_spec Tryz.func295 14000101 1) ?_;refine z.h4.h6.e.g ?_;apply za [(14000101,14000101),(14000102,14000102)] hB h
theorem sync_Mutex_Lock_2_s1_ok {u1:(List Str)}{r:Unit}(h:Q1 u1=some r):XSpec Tryz.prog 280 [.ptr 13000101 1] [(13000101,.box 260 [.pl (.int .u32 0),.pl (.int .i32 0),.pl (.int .u32 0),.pl .nilIface,.sl 13000102 0 u1.length]),(13000102,.row 9 1 0 (F cS u1))] (.tup []) [(13000101,.box 260 [.pl (.int .u32 0),.pl (.int .i32 1),.pl (.int .u32 0),.pl .nilIface,.sl 13000102 0 u1.length]),(13000102,.row 9 1 0 (F cS u1))] []:=by
 unfold Q1 at h;refine zc Tryz.hU Tryz.func280 (fun _ _ _ hB=> ?_);refine z.c0.m.g ?_;refine zg [(14000101,13000101),(14000102,13000102)] [13000101,13000102] h (fun _=>sync_Mutex_Lock_s1_ok) (fun v1 _ h=> ?_);refine k_nil ?_;apply za [(13000101,13000101),(13000102,13000102)] hB h
theorem atomic_Bool_Load_s2_ok {u1:(List Str)}{r:Unit}(h:Jj u1=some r):XSpec Tryz.prog 274 [.ptr 15000101 0] [(15000101,.box 260 [.pl (.int .u32 0),.pl (.int .i32 1),.pl (.int .u32 0),.pl .nilIface,.sl 15000102 0 u1.length]),(15000102,.row 9 1 0 (F cS u1))] (B false) [(15000101,.box 260 [.pl (.int .u32 0),.pl (.int .i32 1),.pl (.int .u32 0),.pl .nilIface,.sl 15000102 0 u1.length]),(15000102,.row 9 1 0 (F cS u1))] []:=by
 unfold Jj at h;refine zc Tryz.hU Tryz.func274 (fun _ _ _ hB=> ?_);refine z.c0.a1.g ?_;refine l_aload Tryz.func279 ?_;refine z.h.d7.g ?_;apply za [(15000101,15000101),(15000102,15000102)] hB h
theorem strings_Replacer_build_s1_ok {u1:(List Str)}{r:Str}(h:qY u1=some r):XSpec Tryz.prog 276 [.ptr 17000101 0] [(17000101,.box 260 [.pl (.int .u32 0),.pl (.int .i32 1),.pl (.int .u32 0),.pl .nilIface,.sl 17000102 0 u1.length]),(17000102,.row 9 1 0 (F cS u1))] (.ifc 283 (.ptr 17000151 0)) [(17000101,.box 260 [.pl (.int .u32 0),.pl (.int .i32 1),.pl (.int .u32 0),.pl .nilIface,.sl 17000102 0 u1.length]),(17000102,.row 9 1 0 (F cS u1)),(17000151,.row 282 1 0 (F cU r))] []:=by
 unfold qY at h;refine zc Tryz.hU Tryz.func276 (fun _ _ _ hB=> ?_);refine z.f3.b2.a1.g ?_;refine qQ (fun q2=>(.normal,⟨[(3,.sl 17000102 0 u1.length),(28,B q2)],[(17000101,.box 260 [.pl (.int .u32 0),.pl (.int .i32 1),.pl (.int .u32 0),.pl .nilIface,.sl 17000102 0 u1.length]),(17000102,.row 9 1 0 (F cS u1))],[]⟩)) h (fun t h=> ?_) (fun q2 h=> ?_)
 ·refine z.F.I.m.g ?_;refine zd h (fun _ h=> ?_) (fun _ h=> ?_)
  ·refine z.f.g ?_;refine QT h (fun v1 ev1 h=> ?_);refine l_on ?_;refine Q7 ev1 ?_;refine z.P.c7.a3.a5.g ?_;exact zq [(17000101,17000101),(17000102,17000102)] hB h
  refine z.c8.b5.j.g ?_;exact zq [(17000101,17000101),(17000102,17000102)] hB h
 refine f_t ?_;refine zn h (fun _ h=> ?_) (fun _ h=> ?_)
 ·refine zaE ?_;refine qX [] (.q 0 (.q 1 (.q 2 (.q 3 (.q 4 (.q 5 (.e 6 (.q 7 (.q 8 .done))))))))) hm ?_;refine z.A.g ?_
  cases h
 refine z.h8.c.k4.M.g ?_;refine zF (fun y5=>⟨[(3,.sl 17000102 0 u1.length),(4,B y5.1),(5,I y5.2)],[(17000101,.box 260 [.pl (.int .u32 0),.pl (.int .i32 1),.pl (.int .u32 0),.pl .nilIface,.sl 17000102 0 u1.length]),(17000102,.row 9 1 0 (F cS u1))],[]⟩) (fun q8=>(.exit 0,⟨[(3,.sl 17000102 0 u1.length),(4,B q8)],[(17000101,.box 260 [.pl (.int .u32 0),.pl (.int .i32 1),.pl (.int .u32 0),.pl .nilIface,.sl 17000102 0 u1.length]),(17000102,.row 9 1 0 (F cS u1))],[]⟩)) [(17000101,17000101),(17000102,17000102)] hB h (fun y5 t h=> ?_) (fun q8 h=> ?_)
 ·unfold Qi at h;refine z.q.I.m5.g ?_;refine zn h (fun _ h=> ?_) (fun _ h=> ?_)
  ·refine z.m5.W.g ?_;refine QT h (fun v6 ev6 h=> ?_);refine Q7 ev6 ?_;refine z.q.a3.g ?_;refine zn h (fun _ h=> ?_) (fun _ h=> ?_)
   ·refine z.b.g ?_
    cases h
   refine z.c9.h5.g ?_;refine QT h (fun v7 ev7 h=> ?_);refine Q7 ev7 ?_;refine z.q.a3.g ?_;refine zn h (fun _ h=> ?_) (fun _ h=> ?_)
   ·refine z.k0.s.o1.g ?_;exact zu [(17000101,17000101),(17000102,17000102)] hB h
   refine z.k0.Q.g ?_;exact zu [(17000101,17000101),(17000102,17000102)] hB h
  refine z.l.g ?_;exact zr [(17000101,17000101),(17000102,17000102)] hB h
 refine z.e.V.c2.g ?_;refine zn h (fun _ h=> ?_) (fun _ h=> ?_)
 ·refine z.c.g ?_;refine l_anew 256 ?_;refine z.m4.V.e.g ?_;refine zF (fun y9=>⟨[(3,.sl 17000102 0 u1.length),(6,.ptr 1006 0),(61,I y9.1)],[(17000101,.box 260 [.pl (.int .u32 0),.pl (.int .i32 1),.pl (.int .u32 0),.pl .nilIface,.sl 17000102 0 u1.length]),(17000102,.row 9 1 0 (F cS u1)),(1006,.row 282 1 0 (F cU y9.2))],[]⟩) (fun q12=>(.exit 2,⟨[(3,.sl 17000102 0 u1.length),(6,.ptr 1006 0)],[(17000101,.box 260 [.pl (.int .u32 0),.pl (.int .i32 1),.pl (.int .u32 0),.pl .nilIface,.sl 17000102 0 u1.length]),(17000102,.row 9 1 0 (F cS u1)),(1006,.row 282 1 0 (F cU q12))],[]⟩)) [(17000101,17000101),(17000102,17000102),(1006,1006)] hB h (fun y9 t h=> ?_) (fun q12 h=> ?_)
  ·unfold Qe at h;refine z.a8.g ?_;refine zn h (fun _ h=> ?_) (fun _ h=> ?_)
   ·refine z.q5.y.o.j7.g ?_;refine l_aidx h (fun v10 ev10 h=> ?_);refine l_put0 ev10 h (fun v11 ev11 h=> ?_);refine z.e4.d5.g ?_;exact zu [(17000101,17000101),(17000102,17000102),(1006,1006)] hB h
   refine z.l.g ?_;exact zr [(17000101,17000101),(17000102,17000102),(1006,1006)] hB h
  refine z.h8.R.I.V.c2.g ?_;refine zF (fun y13=>⟨[(3,.sl 17000102 0 u1.length),(6,.ptr 1006 0),(8,I y13.1)],[(17000101,.box 260 [.pl (.int .u32 0),.pl (.int .i32 1),.pl (.int .u32 0),.pl .nilIface,.sl 17000102 0 u1.length]),(17000102,.row 9 1 0 (F cS u1)),(1006,.row 282 1 0 (F cU y13.2))],[]⟩) (fun q20=>(.exit 4,⟨[(6,.ptr 1006 0)],[(17000101,.box 260 [.pl (.int .u32 0),.pl (.int .i32 1),.pl (.int .u32 0),.pl .nilIface,.sl 17000102 0 u1.length]),(17000102,.row 9 1 0 (F cS u1)),(1006,.row 282 1 0 (F cU q20))],[]⟩)) [(17000101,17000101),(17000102,17000102),(1006,1006)] hB h (fun y13 t h=> ?_) (fun q20 h=> ?_)
  ·unfold Qg at h;refine z.q.V.g ?_;refine zn h (fun _ h=> ?_) (fun _ h=> ?_)
   ·refine z.i.W.g ?_;refine QT h (fun v14 ev14 h=> ?_);refine Q7 ev14 ?_;refine QI h (fun v15 _ h=> ?_);refine z.c9.O.g ?_;refine QT h (fun v16 ev16 h=> ?_);refine Q7 ev16 ?_;refine QI h (fun v17 _ h=> ?_);refine z.y.o.g ?_;refine l_aidx h (fun v18 ev18 h=> ?_);refine l_put0 ev18 h (fun v19 ev19 h=> ?_);refine z.s.R.m9.d5.g ?_;exact zu [(17000101,17000101),(17000102,17000102),(1006,1006)] hB h
   refine z.l.g ?_;exact zr [(17000101,17000101),(17000102,17000102),(1006,1006)] hB h
  refine z.h4.h.t0.c.c2.g ?_;apply za [(17000101,17000101),(17000102,17000102),(1006,17000151)] hB h
 refine z.t1.I.t.g ?_
 cases h
theorem strings_Replacer_buildOnce_s1_ok {u1:(List Str)}{r:Str}(h:Ze u1=some r):XSpec Tryz.prog 265 [.ptr 16000101 0] [(16000101,.box 260 [.pl (.int .u32 0),.pl (.int .i32 1),.pl (.int .u32 0),.pl .nilIface,.sl 16000102 0 u1.length]),(16000102,.row 9 1 0 (F cS u1))] (.tup []) [(16000101,.box 260 [.pl (.int .u32 0),.pl (.int .i32 1),.pl (.int .u32 0),.ifc 283 (.ptr 16000151 0),.pl (.slice none 0 0)]),(16000102,.row 9 1 0 (F cS u1)),(16000151,.row 282 1 0 (F cU r))] []:=by
 unfold Ze at h;refine zc Tryz.hU Tryz.func265 (fun _ _ _ hB=> ?_);refine z.i.g ?_;refine zg [(17000101,16000101),(17000102,16000102),(17000151,100451)] [16000101,16000102] h (fun _=>strings_Replacer_build_s1_ok) (fun v1 _ h=> ?_);refine z.d5.k9.c0.m.m0.g ?_;apply za [(16000101,16000101),(16000102,16000102),(100451,16000151)] hB h
theorem atomic_Bool_Store_s1_ok {u1:Str}{r:Unit}(h:zar u1=some r):DSpec Tryz.prog 282 [.ptr 12000101 0,B true] [(12000101,.box 260 [.pl (.int .u32 0),.pl (.int .i32 1),.pl (.int .u32 0),.ifc 283 (.ptr 102051 0),.pl (.slice none 0 0)]),(102051,.row 282 1 0 (F cU u1))] (.tup []) [(12000101,.box 260 [.pl (.int .u32 1),.pl (.int .i32 1),.pl (.int .u32 0),.ifc 283 (.ptr 102051 0),.pl (.slice none 0 0)]),(102051,.row 282 1 0 (F cU u1))] []:=by
 unfold zar at h;refine D_of_run Tryz.hU Tryz.func282 (fun _ _ _ hB=> ?_);refine qX [5] (.q 0 (.q 1 (.q 2 (.q 3 (.e 4 (.e 5 .done)))))) hm ?_;refine z.v.e9.m2.l1.A.g ?_;refine n_callK (atomic_b32_ok (show atomic_b32 true=some 1 from rfl)) ?_;refine ge ?_;refine n_astore Tryz.func288 ?_;refine m_nil ?_;apply za [(12000101,12000101),(102051,102051)] hB h
theorem sync_Mutex_Unlock_s1_ok {u1:Str}{r:Unit}(h:zat u1=some r):XSpec Tryz.prog 287 [.ptr 20000101 1] [(20000101,.box 260 [.pl (.int .u32 1),.pl (.int .i32 1),.pl (.int .u32 0),.ifc 283 (.ptr 20000102 0),.pl (.slice none 0 0)]),(20000102,.row 282 1 0 (F cU u1))] (.tup []) [(20000101,.box 260 [.pl (.int .u32 1),.pl (.int .i32 0),.pl (.int .u32 0),.ifc 283 (.ptr 20000102 0),.pl (.slice none 0 0)]),(20000102,.row 282 1 0 (F cU u1))] []:=by
 unfold zat at h;refine zc Tryz.hU Tryz.func287 (fun _ _ _ hB=> ?_);refine z.p5.c1.b2.b.e8.T.g ?_;refine l_nat (race1_spec Tryz.func297 20000101 1) ?_;refine z.o1.e.g ?_;refine l_nat (race0_spec Tryz.func292) ?_;refine z.c0.c1.g ?_;refine l_aadd Tryz.func298 ?_;refine z.o1.M.i4.q.J.g ?_;refine l_nat (race0_spec Tryz.func294) ?_;refine k_nil ?_;apply za [(20000101,20000101),(20000102,20000102)] hB h
theorem sync_Mutex_Unlock_2_s1_ok {u1:Str}{r:Unit}(h:JM u1=some r):DSpec Tryz.prog 281 [.ptr 12000101 1] [(12000101,.box 260 [.pl (.int .u32 1),.pl (.int .i32 1),.pl (.int .u32 0),.ifc 283 (.ptr 102051 0),.pl (.slice none 0 0)]),(102051,.row 282 1 0 (F cU u1))] (.tup []) [(12000101,.box 260 [.pl (.int .u32 1),.pl (.int .i32 0),.pl (.int .u32 0),.ifc 283 (.ptr 102051 0),.pl (.slice none 0 0)]),(102051,.row 282 1 0 (F cU u1))] []:=by
 unfold JM at h;refine D_of_run Tryz.hU Tryz.func281 (fun _ _ _ hB=> ?_);refine z.c0.m.g ?_;refine zg [(20000101,12000101),(20000102,102051)] [12000101,102051] h (fun _=>sync_Mutex_Unlock_s1_ok) (fun v1 _ h=> ?_);refine k_nil ?_;apply za [(12000101,12000101),(102051,102051)] hB h
theorem sync_Once_doSlow_s1_ok {u1:(List Str)}{r:Str}(h:Jl u1=some r):XSpec Tryz.prog 275 [.ptr 12000101 0,.fn (.func 265) [.ptr 12000101 0] []] [(12000101,.box 260 [.pl (.int .u32 0),.pl (.int .i32 0),.pl (.int .u32 0),.pl .nilIface,.sl 12000102 0 u1.length]),(12000102,.row 9 1 0 (F cS u1))] (.tup []) [(12000101,.box 260 [.pl (.int .u32 1),.pl (.int .i32 0),.pl (.int .u32 0),.ifc 283 (.ptr 12000151 0),.pl (.slice none 0 0)]),(12000102,.row 9 1 0 (F cS u1)),(12000151,.row 282 1 0 (F cU r))] []:=by
 unfold Jl at h;refine X_of_runD Tryz.hU Tryz.func275 (fun _ _ _ hB hA=> ?_);refine z.c0.b.g ?_;refine zg [(13000101,12000101),(13000102,12000102)] [12000101,12000102] h (fun _=>sync_Mutex_Lock_2_s1_ok) (fun v1 _ h=> ?_);refine z.c0.c1.g ?_;refine l_defer hA rfl rfl rfl rfl rfl (fun p1 hp1 hn1=> ?_);refine z.c0.c1.g ?_;refine zg [(15000101,12000101),(15000102,12000102)] [12000101,12000102] h (fun _=>atomic_Bool_Load_s2_ok) (fun v2 _ h=> ?_);refine z.c0.b.e8.d4.g ?_;refine l_defer hA rfl rfl rfl rfl rfl (fun p2 hp2 hn2=> ?_);refine z.m.e.g ?_;refine zg [(16000101,12000101),(16000102,12000102),(16000151,102051)] [12000101,12000102] h (fun _=>strings_Replacer_buildOnce_s1_ok) (fun v3 _ h=> ?_);refine z.t2.d5.g ?_;obtain ⟨v4,hv4,h⟩:=bind_some h;refine leavesD_cons (ks:=[.bool true]) [12000101,102051] hp2 hn2 (atomic_Bool_Store_s1_ok hv4) ?_;obtain ⟨v5,hv5,h⟩:=bind_some h;refine leavesD_cons (ks:=[]) [12000101,102051] hp1 hn1 (sync_Mutex_Unlock_2_s1_ok hv5) ?_
 cases h
 exact leavesD_nil [(12000101,12000101),(12000102,12000102),(102051,12000151)] hB
theorem sync_Once_Do_s1_ok {u1:(List Str)}{r:Str}(h:J5 u1=some r):XSpec Tryz.prog 264 [.ptr 10000101 0,.fn (.func 265) [.ptr 10000101 0] []] [(10000101,.box 260 [.pl (.int .u32 0),.pl (.int .i32 0),.pl (.int .u32 0),.pl .nilIface,.sl 10000102 0 u1.length]),(10000102,.row 9 1 0 (F cS u1))] (.tup []) [(10000101,.box 260 [.pl (.int .u32 1),.pl (.int .i32 0),.pl (.int .u32 0),.ifc 283 (.ptr 10000151 0),.pl (.slice none 0 0)]),(10000102,.row 9 1 0 (F cS u1)),(10000151,.row 282 1 0 (F cU r))] []:=by
 unfold J5 at h;refine zc Tryz.hU Tryz.func264 (fun _ _ _ hB=> ?_);refine z.c0.b.g ?_;refine zg [(11000101,10000101),(11000102,10000102)] [10000101,10000102] h (fun _=>atomic_Bool_Load_s1_ok) (fun v1 _ h=> ?_);refine z.y.e8.d4.g ?_;refine zg [(12000101,10000101),(12000102,10000102),(12000151,101151)] [10000101,10000102] h (fun _=>sync_Once_doSlow_s1_ok) (fun v2 _ h=> ?_);refine k_nil ?_;apply za [(10000101,10000101),(10000102,10000102),(101151,10000151)] hB h
theorem QF {u1:Str}{u2:Str}{r:Str}(h:z6 u1 u2=some r):XSpec Tryz.prog 331 [.ptr 21000101 0,S u1] [(21000101,.row 282 1 0 (F cU u2))] (S r) [(21000101,.row 282 1 0 (F cU u2))] []:=by
 unfold z6 at h;refine zc Tryz.hU Tryz.func331 (fun _ _ _ hB=> ?_);refine z.h8.c.k4.o.c.g ?_;refine zF (Sum.elim (fun (y1:Int)=>⟨[(0,.ptr 21000101 0),(1,S u1),(5,.pl (.slice none 0 0)),(6,I y1)],[(21000101,.row 282 1 0 (F cU u2))],[]⟩) (fun (y1:Int×Str)=>⟨[(0,.ptr 21000101 0),(1,S u1),(5,.sl 1027 0 y1.2.length),(6,I y1.1)],[(21000101,.row 282 1 0 (F cU u2)),(1027,.row 5 1 0 (F cU y1.2))],[]⟩)) (Sum.elim (fun q13=>(.exit 0,⟨[(1,S u1),(5,.pl (.slice none 0 0))],[(21000101,.row 282 1 0 (F cU u2))],[]⟩)) (fun q14=>(.exit 0,⟨[(1,S u1),(5,.sl 1027 0 q14.length)],[(21000101,.row 282 1 0 (F cU u2)),(1027,.row 5 1 0 (F cU q14))],[]⟩))) [(21000101,21000101)] hB h (fun y1 t h=> ?_) (fun q h=> ?_)
 ·unfold zp at h
  rcases y1 with y1|y1
  ·dsimp only [Sum.elim] at h ⊢
   refine z.q.a3.m5.g ?_;refine zn h (fun _ h=> ?_) (fun _ h=> ?_)
   ·refine z.i.W.g ?_;refine QI h (fun v2 _ h=> ?_);refine z.n8.O.g ?_;refine l_aidx h (fun v3 ev3 h=> ?_);refine Q7 ev3 ?_;refine z.q.a.g ?_;refine zn h (fun _ h=> ?_) (fun _ h=> ?_)
    ·refine z.n8.k1.o.o9.m.e8.e.r7.V.g ?_;refine l_aidx h (fun v4 ev4 h=> ?_);refine Q7 ev4 ?_;refine QT h (fun v5 ev5 h=> ?_);refine l_put0 ev5 h (fun v6 ev6 h=> ?_);refine z.k0.d5.g ?_;refine qj 5 v6.length ?_;exact zu [(21000101,21000101),(1027,1027)] hB h
    refine z.k0.Q.g ?_;exact zu [(21000101,21000101)] hB h
   refine z.l.g ?_;exact zr [(21000101,21000101)] hB h
  dsimp only [Sum.elim] at h ⊢
  refine z.q.a3.m5.g ?_;refine zn h (fun _ h=> ?_) (fun _ h=> ?_)
  ·refine z.i.W.g ?_;refine QI h (fun v7 _ h=> ?_);refine z.n8.O.g ?_;refine l_aidx h (fun v8 ev8 h=> ?_);refine Q7 ev8 ?_;refine z.q.a.g ?_;refine zn h (fun _ h=> ?_) (fun _ h=> ?_)
   ·refine z.V.g ?_;refine l_nenil h (fun v9 _ h=> ?_);refine z.n8.k1.M.i4.e.g ?_;refine l_aidx h (fun v10 ev10 h=> ?_);refine Q7 ev10 ?_;refine QT h (fun v11 ev11 h=> ?_);refine l_put0 ev11 h (fun v12 ev12 h=> ?_);refine z.k0.d5.g ?_;refine qj 5 v12.length ?_;exact zu [(21000101,21000101),(1027,1027)] hB h
   refine z.k0.Q.g ?_;exact zu [(21000101,21000101),(1027,1027)] hB h
  refine z.l.g ?_;exact zr [(21000101,21000101),(1027,1027)] hB h
 rcases q with q13|q14
 ·dsimp only [Sum.elim] at h ⊢
  refine z.h4.h.b.e8.e.r7.V.c2.g ?_;apply za [(21000101,21000101)] hB h
 dsimp only [Sum.elim] at h ⊢
 refine z.V.c2.g ?_;refine l_nenil h (fun v15 _ h=> ?_);refine z.h.q0.t.i4.e.g ?_;apply za [(21000101,21000101)] hB h
theorem strings_Replacer_Replace_s1_ok {u1:Str}{u2:(List Str)}{r:Str×Str}(h:qL u1 u2=some r):XSpec Tryz.prog 248 [.ptr 9000101 0,S u1] [(9000101,.box 260 [.pl (.int .u32 0),.pl (.int .i32 0),.pl (.int .u32 0),.pl .nilIface,.sl 9000102 0 u2.length]),(9000102,.row 9 1 0 (F cS u2))] (S r.1) [(9000101,.box 260 [.pl (.int .u32 1),.pl (.int .i32 0),.pl (.int .u32 0),.ifc 283 (.ptr 9000151 0),.pl (.slice none 0 0)]),(9000102,.row 9 1 0 (F cS u2)),(9000151,.row 282 1 0 (F cU r.2))] []:=by
 unfold qL at h;refine zc Tryz.hU Tryz.func248 (fun _ _ _ hB=> ?_);refine z.q6.a.c0.a1.g ?_;refine zg [(10000101,9000101),(10000102,9000102),(10000151,101051)] [9000101,9000102] h (fun _=>sync_Once_Do_s1_ok) (fun v1 _ h=> ?_);refine z.j6.c1.g ?_;refine l_callXI [(21000101,101051)] [101051] h (fun _=>QF) (fun v2 _ h=> ?_);refine z.h.g ?_;apply za [(9000101,9000101),(9000102,9000102),(101051,9000151)] hB h
theorem atomic_Bool_Load_s3_ok {u1:Str}{r:Unit}(h:Ji u1=some r):XSpec Tryz.prog 274 [.ptr 24000101 0] [(24000101,.box 260 [.pl (.int .u32 1),.pl (.int .i32 0),.pl (.int .u32 0),.ifc 283 (.ptr 24000102 0),.pl (.slice none 0 0)]),(24000102,.row 282 1 0 (F cU u1))] (B true) [(24000101,.box 260 [.pl (.int .u32 1),.pl (.int .i32 0),.pl (.int .u32 0),.ifc 283 (.ptr 24000102 0),.pl (.slice none 0 0)]),(24000102,.row 282 1 0 (F cU u1))] []:=by
 unfold Ji at h;refine zc Tryz.hU Tryz.func274 (fun _ _ _ hB=> ?_);refine z.c0.a1.g ?_;refine l_aload Tryz.func279 ?_;refine z.h.d7.g ?_;apply za [(24000101,24000101),(24000102,24000102)] hB h
theorem sync_Once_Do_s2_ok {u1:Str}{r:Unit}(h:zaI u1=some r):XSpec Tryz.prog 264 [.ptr 23000101 0,.fn (.func 265) [.ptr 23000101 0] []] [(23000101,.box 260 [.pl (.int .u32 1),.pl (.int .i32 0),.pl (.int .u32 0),.ifc 283 (.ptr 23000102 0),.pl (.slice none 0 0)]),(23000102,.row 282 1 0 (F cU u1))] (.tup []) [(23000101,.box 260 [.pl (.int .u32 1),.pl (.int .i32 0),.pl (.int .u32 0),.ifc 283 (.ptr 23000102 0),.pl (.slice none 0 0)]),(23000102,.row 282 1 0 (F cU u1))] []:=by
 unfold zaI at h;refine zc Tryz.hU Tryz.func264 (fun _ _ _ hB=> ?_);refine z.c0.b.g ?_;refine zg [(24000101,23000101),(24000102,23000102)] [23000101,23000102] h (fun _=>atomic_Bool_Load_s3_ok) (fun v1 _ h=> ?_);refine z.Q.i4.d4.g ?_;apply za [(23000101,23000101),(23000102,23000102)] hB h
theorem strings_Replacer_Replace_s2_ok {u1:Str}{u2:Str}{r:Str}(h:qm u1 u2=some r):XSpec Tryz.prog 248 [.ptr 22000101 0,S u1] [(22000101,.box 260 [.pl (.int .u32 1),.pl (.int .i32 0),.pl (.int .u32 0),.ifc 283 (.ptr 22000102 0),.pl (.slice none 0 0)]),(22000102,.row 282 1 0 (F cU u2))] (S r) [(22000101,.box 260 [.pl (.int .u32 1),.pl (.int .i32 0),.pl (.int .u32 0),.ifc 283 (.ptr 22000102 0),.pl (.slice none 0 0)]),(22000102,.row 282 1 0 (F cU u2))] []:=by
 unfold qm at h;refine zc Tryz.hU Tryz.func248 (fun _ _ _ hB=> ?_);refine z.q6.a.c0.a1.g ?_;refine zg [(23000101,22000101),(23000102,22000102)] [22000101,22000102] h (fun _=>sync_Once_Do_s2_ok) (fun v1 _ h=> ?_);refine z.j6.c1.g ?_;refine l_callXI [(21000101,22000102)] [22000102] h (fun _=>QF) (fun v2 _ h=> ?_);refine z.h.g ?_;apply za [(22000101,22000101),(22000102,22000102)] hB h
theorem chars_expand_s1_ok {u1:Str}{u2:(List Str)}{r:Str×Bool}(h:zaK u1 u2=some r):XSpec Tryz.prog 218 [S u1,.fn (.func 248) [.ptr 8000101 0] []] [(8000101,.box 260 [.pl (.int .u32 0),.pl (.int .i32 0),.pl (.int .u32 0),.pl .nilIface,.sl 8000102 0 u2.length]),(8000102,.row 9 1 0 (F cS u2))] (.tup [S r.1,B r.2]) [(8000102,.row 9 1 0 (F cS u2))] [8000101]:=by
 unfold zaK at h;refine zc Tryz.hU Tryz.func218 (fun _ _ _ hB=> ?_);refine z.f3.a7.g ?_;refine qQ (fun q3=>(.normal,⟨[(0,S u1),(1,.fn (.func 248) [.ptr 8000101 0] []),(22,B q3)],[(8000101,.box 260 [.pl (.int .u32 0),.pl (.int .i32 0),.pl (.int .u32 0),.pl .nilIface,.sl 8000102 0 u2.length]),(8000102,.row 9 1 0 (F cS u2))],[]⟩)) h (fun t h=> ?_) (fun q3 h=> ?_)
 ·refine z.o9.m.g ?_;refine l_callB h (fun _=>utf_Text_ok) (fun v1 _ h=> ?_);refine z.f8.g ?_;refine zd h (fun _ h=> ?_) (fun _ h=> ?_)
  ·refine z.P.n.g ?_;exact zq [(8000101,8000101),(8000102,8000102)] hB h
  refine z.f.g ?_;refine zo h (fun _=>ZN) (fun v2 _ h=> ?_);refine l_to [(8000101,8000101),(8000102,8000102)] ⟨[(0,S u1),(1,.fn (.func 248) [.ptr 8000101 0] []),(19,B false),(21,B v2)],[(8000101,.box 260 [.pl (.int .u32 0),.pl (.int .i32 0),.pl (.int .u32 0),.pl .nilIface,.sl 8000102 0 u2.length]),(8000102,.row 9 1 0 (F cS u2))],[]⟩ hB ?_;refine z.c8.g ?_;exact zq [(8000101,8000101),(8000102,8000102)] hB h
 refine f_t ?_;refine zn h (fun _ h=> ?_) (fun _ h=> ?_)
 ·refine z.U.g ?_;apply za [(8000102,8000102)] hB h
 refine z.m4.d1.c.M.g ?_;refine k_npcell (b:=1006) (j:=0) 1006 0 ?_;refine zF (Sum.elim (fun (y4:Unit)=>⟨[(0,S u1),(1,.fn (.func 248) [.ptr 8000101 0] []),(6,.ptr 1006 0)],[(8000101,.box 260 [.pl (.int .u32 0),.pl (.int .i32 0),.pl (.int .u32 0),.pl .nilIface,.sl 8000102 0 u2.length]),(8000102,.row 9 1 0 (F cS u2)),(1006,.box 102 [.nptr true 1006 0,.pl (.slice none 0 0)])],[]⟩) (fun (y4:Str×Str×Str)=>⟨[(0,S y4.1),(1,.fn (.func 248) [.ptr 8000101 0] []),(6,.ptr 1006 0)],[(8000101,.box 260 [.pl (.int .u32 1),.pl (.int .i32 0),.pl (.int .u32 0),.ifc 283 (.ptr 103151 0),.pl (.slice none 0 0)]),(8000102,.row 9 1 0 (F cS u2)),(1006,.box 102 [.nptr false 1006 0,.sl 13061 0 y4.2.2.length]),(103151,.row 282 1 0 (F cU y4.2.1)),(13061,.row 5 1 0 (F cU y4.2.2))],[13061]⟩)) (fun q19=>(.ret,⟨[(4,S q19.1),(5,B q19.2.1)],[(8000101,.box 260 [.pl (.int .u32 1),.pl (.int .i32 0),.pl (.int .u32 0),.ifc 283 (.ptr 103151 0),.pl (.slice none 0 0)]),(8000102,.row 9 1 0 (F cS u2)),(103151,.row 282 1 0 (F cU q19.2.2))],[13061]⟩)) [(8000101,8000101),(8000102,8000102),(1006,1006)] hB h (fun y4 t h=> ?_) (fun q19 h=> ?_)
 ·unfold qf at h
  rcases y4 with y4|y4
  ·dsimp only [Sum.elim] at h ⊢
   refine z.b.c6.g ?_;refine zo h (fun _=>Zk) (fun v5 _ h=> ?_);refine z.O.D.D.l0.k8.g ?_;refine zg [(9000101,8000101),(9000102,8000102),(9000151,103151)] [8000101,8000102] h (fun _=>strings_Replacer_Replace_s1_ok) (fun v6 _ h=> ?_);refine l_nilcell (te:=5) (b1:=1006) (j:=1) 13061 1 ?_;refine zg [(4000101,1006),(4000102,13061)] [1006,13061] h (fun _=>zj) (fun v7 _ h=> ?_);refine z.d4.V.e.g ?_;refine zn h (fun _ h=> ?_) (fun _ h=> ?_)
   ·refine z.c.g ?_;refine zg [(6000101,1006),(6000102,13061)] [1006,13061] h (fun _=>zO) (fun v8 _ h=> ?_);refine z.C.h3.g ?_;exact zr [(8000101,8000101),(8000102,8000102),(103151,103151)] hB h
   refine z.t.g ?_;refine zo h (fun _=>Zk) (fun v9 _ h=> ?_);refine z.w.D.D.l0.k8.g ?_;refine zo h (fun _=>zaJ) (fun v10 _ h=> ?_);refine z.f8.J.b7.g ?_;refine zd h (fun _ h=> ?_) (fun _ h=> ?_)
   ·refine z.C.U.f9.n.g ?_;exact zr [(8000101,8000101),(8000102,8000102),(103151,103151)] hB h
   refine z.c5.i8.f.g ?_;refine zn h (fun _ h=> ?_) (fun _ h=> ?_)
   ·refine z.C.U.g ?_;exact zr [(8000101,8000101),(8000102,8000102),(103151,103151)] hB h
   refine z.t.g ?_;refine zg [(4000101,1006),(4000102,13061)] [1006,13061] h (fun _=>zj) (fun v11 _ h=> ?_);refine z.j1.m.e.g ?_;exact zu [(8000101,8000101),(8000102,8000102),(1006,1006),(103151,103151),(13061,13061)] hB h
  dsimp only [Sum.elim] at h ⊢
  refine z.b.c6.g ?_;refine zo h (fun _=>Zk) (fun v12 _ h=> ?_);refine z.O.D.D.l0.k8.g ?_;refine zg [(22000101,8000101),(22000102,103151)] [8000101,103151] h (fun _=>strings_Replacer_Replace_s2_ok) (fun v13 _ h=> ?_);refine zg [(4000101,1006),(4000102,13061)] [1006,13061] h (fun _=>zj) (fun v14 _ h=> ?_);refine z.d4.V.e.g ?_;refine zn h (fun _ h=> ?_) (fun _ h=> ?_)
  ·refine z.c.g ?_;refine zg [(6000101,1006),(6000102,13061)] [1006,13061] h (fun _=>zO) (fun v15 _ h=> ?_);refine z.C.h3.g ?_;exact zr [(8000101,8000101),(8000102,8000102),(103151,103151)] hB h
  refine z.t.g ?_;refine zo h (fun _=>Zk) (fun v16 _ h=> ?_);refine z.w.D.D.l0.k8.g ?_;refine zo h (fun _=>zaJ) (fun v17 _ h=> ?_);refine z.f8.J.b7.g ?_;refine zd h (fun _ h=> ?_) (fun _ h=> ?_)
  ·refine z.C.U.f9.n.g ?_;exact zr [(8000101,8000101),(8000102,8000102),(103151,103151)] hB h
  refine z.c5.i8.f.g ?_;refine zn h (fun _ h=> ?_) (fun _ h=> ?_)
  ·refine z.C.U.g ?_;exact zr [(8000101,8000101),(8000102,8000102),(103151,103151)] hB h
  refine z.t.g ?_;refine zg [(4000101,1006),(4000102,13061)] [1006,13061] h (fun _=>zj) (fun v18 _ h=> ?_);refine z.j1.m.e.g ?_;exact zu [(8000101,8000101),(8000102,8000102),(1006,1006),(103151,103151),(13061,13061)] hB h
 refine f_br ?_;refine f_nilcell (te:=9) (b1:=8000101) (j:=4) 80004014 1 ?_;apply za [(8000102,8000102)] hB h
theorem chars_Value_ok {s:Str}{r:Str×Bool}(h:chars_Value s=some r):XSpec Tryz.prog 216 [S s] [] (.tup [S r.1,B r.2]) [] []:=by
 unfold chars_Value at h;refine zc Tryz.hU Tryz.func216 (fun _ _ _ hB=> ?_);refine z.c.o.a7.g ?_;refine Z6 (e:=cS) [[9],[32],[10],[32],[13],[32]] ?_;refine zg [(7000101,1005),(7000151,100651),(7000152,100652)] [1005] h (fun _=>strings_NewReplacer_s1_ok) (fun v1 _ h=> ?_);refine z.q6.O.g ?_;refine zg [(8000101,100651),(8000102,100652)] [100651,100652] h (fun _=>chars_expand_s1_ok) (fun v2 _ h=> ?_);refine z.N.o0.g ?_;apply za [] hB h
theorem stringslite_IndexByte_ok {s:Str}{c:UInt8}{r:Int}(h:zad s c=some r):XSpec Tryz.prog 217 [S s,U c] [] (I r) [] []:=by
 unfold zad at h;refine zc Tryz.hU Tryz.func217 (fun _ _ _ hB=> ?_);refine z.k6.g ?_;refine l_nat (indexByte_spec Tryz.func249 s c) ?_;refine z.h.g ?_;apply za [] hB h
theorem strings_IndexByte_ok {s:Str}{c:UInt8}{r:Int}(h:zai s c=some r):XSpec Tryz.prog 168 [S s,U c] [] (I r) [] []:=by
 unfold zai at h;refine zc Tryz.hU Tryz.func168 (fun _ _ _ hB=> ?_);refine z.k6.g ?_;refine zo h (fun _=>stringslite_IndexByte_ok) (fun v1 _ h=> ?_);refine z.h.g ?_;apply za [] hB h
theorem name_Trim_ok {s:Str}{r:Str}(h:name_Trim s=some r):XSpec Tryz.prog 169 [S s] [] (S r) [] []:=by
 unfold name_Trim at h;refine zc Tryz.hU Tryz.func169 (fun _ _ _ hB=> ?_);refine z.c6.k4.g ?_;refine zF (fun y1=>⟨[(0,S y1)],[],[]⟩) (fun q5=>(.exit 0,⟨[(0,S q5)],[],[]⟩)) [] hB h (fun y1 t h=> ?_) (fun q5 h=> ?_)
 ·unfold name_Trim_b1 at h;refine z.a.j5.V.g ?_;refine zd h (fun _ h=> ?_) (fun _ h=> ?_)
  ·refine z.f.g ?_;refine QI h (fun v2 _ h=> ?_);refine l_on ?_;refine zo h (fun _=>zaH) (fun v3 _ h=> ?_);refine z.i7.g ?_;refine zn h (fun _ h=> ?_) (fun _ h=> ?_)
   ·refine z.m.l6.g ?_;refine ZF h (fun v4 _ h=> ?_);refine z.j1.g ?_;exact zu [] hB h
   refine z.l.g ?_;exact zr [] hB h
  refine z.l.i1.k.g ?_;exact zr [] hB h
 refine z.c6.T.c2.g ?_;refine zF (fun y6=>⟨[(0,S y6)],[],[]⟩) (fun q10=>(.exit 2,⟨[(0,S q10)],[],[]⟩)) [] hB h (fun y6 t h=> ?_) (fun q10 h=> ?_)
 ·unfold name_Trim_b2 at h;refine z.a.j5.V.g ?_;refine zd h (fun _ h=> ?_) (fun _ h=> ?_)
  ·refine z.a5.R.a5.a3.f.x.g ?_;refine QI h (fun v7 _ h=> ?_);refine l_on ?_;refine zo h (fun _=>zaH) (fun v8 _ h=> ?_);refine z.i7.g ?_;refine zn h (fun _ h=> ?_) (fun _ h=> ?_)
   ·refine z.R.a3.y.l6.g ?_;refine ZF h (fun v9 _ h=> ?_);refine z.j1.g ?_;exact zu [] hB h
   refine z.l.g ?_;exact zr [] hB h
  refine z.l.i1.n.j.g ?_;exact zr [] hB h
 refine z.h.k7.g ?_;apply za [] hB h
theorem chars_Content_c1_ok {x:Str}{r:Str}(h:zaA x=some r):XSpec Tryz.prog 219 [S x] [] (S r) [] []:=by
 unfold zaA at h;refine zc Tryz.hU Tryz.func219 (fun _ _ _ hB=> ?_);refine z.h.a1.g ?_;apply za [] hB h
theorem chars_Content_ok {s:Str}{r:Str×Bool}(h:Jf s=some r):XSpec Tryz.prog 170 [S s] [] (.tup [S r.1,B r.2]) [] []:=by
 unfold Jf at h;refine zc Tryz.hU Tryz.func170 (fun _ _ _ hB=> ?_);refine z.J.a7.g ?_;refine zo h (fun _=>ZN) (fun v1 _ h=> ?_);refine z.e.g ?_;refine zn h (fun _ h=> ?_) (fun _ h=> ?_)
 ·refine z.U.g ?_;apply za [] hB h
 refine z.t.g ?_;refine zo h (fun _=>chars_expand_ok (fun h=>chars_Content_c1_ok h) ⟨rfl,rfl⟩) (fun v2 _ h=> ?_);refine z.N.o0.g ?_;apply za [] hB h
theorem doc_bare_ok {x:zf}{r:Bool}(h:doc_bare x=some r):XSpec Tryz.prog 171 [.agg (zm x)] [] (B r) [] []:=by
 unfold doc_bare at h;refine zc Tryz.hU Tryz.func171 (fun _ _ _ hB=> ?_);refine z.a.b4.e2.o.l2.g ?_;refine zd h (fun _ h=> ?_) (fun _ h=> ?_)
 ·refine z.a2.k2.g ?_;refine zd h (fun _ h=> ?_) (fun _ h=> ?_)
  ·refine z.a2.c7.I.H.g ?_;refine zd h (fun _ h=> ?_) (fun _ h=> ?_)
   ·refine z.c3.c7.I.H.g ?_;apply za [] hB h
   refine z.b9.j.g ?_;apply za [] hB h
  refine z.b9.i9.j.g ?_;apply za [] hB h
 refine z.b9.i9.i9.k.g ?_;apply za [] hB h
theorem doc_stands_ok {l:(List zf)}{n:Int}{r:Bool}(h:zaR l n=some r):XSpec Tryz.prog 172 [.vs l.length (F zm l),I n] [] (B r) [] []:=by
 unfold zaR at h;refine zc Tryz.hU Tryz.func172 (fun _ _ _ hB=> ?_);refine z.h8.R.d6.g ?_;refine zF (fun y1=>⟨[(0,.vs l.length (F zm l)),(1,I n),(5,I y1)],[],[]⟩) (Sum.elim (fun q6=>(.ret,⟨[(4,B q6)],[],[]⟩)) (fun q7=>(.exit 0,⟨[],[],[]⟩))) [] hB h (fun y1 t h=> ?_) (fun q h=> ?_)
 ·unfold ZZ at h;refine z.q.V.g ?_;refine zn h (fun _ h=> ?_) (fun _ h=> ?_)
  ·refine z.a.i.W.g ?_;refine Qh h (fun v2 _ h=> ?_);refine z.q.G.g ?_;refine zn h (fun _ h=> ?_) (fun _ h=> ?_)
   ·refine z.i.g ?_;refine Qh h (fun v3 _ h=> ?_);refine z.F.G.g ?_;refine zd h (fun _ h=> ?_) (fun _ h=> ?_)
    ·refine z.E.c4.n.j.g ?_;exact zr [] hB h
    refine z.f.x.g ?_;refine Qh h (fun v4 _ h=> ?_);refine z.E.l3.d7.H.g ?_;exact zr [] hB h
   refine z.y.f0.Q.g ?_;refine Qh h (fun v5 _ h=> ?_);refine z.s.G.g ?_;exact zu [] hB h
  refine z.l.g ?_;exact zr [] hB h
 rcases q with q6|q7
 ·dsimp only [Sum.elim] at h ⊢
  refine z.B.g ?_;apply za [] hB h
 dsimp only [Sum.elim] at h ⊢
 refine z.l7.g ?_;apply za [] hB h
theorem doc_declared_c1_ok {o:zb}{p1:zb}{r:Bool}(h:zaN o p1=some r):XSpec Tryz.prog 252 [.agg (zl o),.vptr (zl p1)] [] (B r) [] []:=by
 unfold zaN at h;refine zc Tryz.hU Tryz.func252 (fun _ _ _ hB=> ?_);refine z.h.b4.G.e2.o.l2.g ?_;apply za [] hB h
theorem slices_IndexFunc_Decl_ok {s:(List zb)}{f:(zb→Option Bool)}{fk_f:Nat}{fc_f:List AV}(hf_f: ∀ {x0:zb} {r:Bool},f x0=some r→XSpec Tryz.prog fk_f ((.agg (zl x0))::fc_f) [] (B r) [] [])(hc_f:AV.closedL fc_f=true∧AV.onlyL [] fc_f=true){r:Int}(h:QO s f=some r):XSpec Tryz.prog 269 [.vs s.length (F zl s),.fn (.func fk_f) [] fc_f] [] (I r) [] []:=by
 unfold QO at h;refine zc Tryz.hU Tryz.func269 (fun _ _ _ hB=> ?_);refine z.d3.d6.g ?_;refine zF (fun y1=>⟨[(0,.vs s.length (F zl s)),(1,.fn (.func fk_f) [] fc_f),(7,I (s.length:Int)),(8,I y1)],[],[]⟩) (Sum.elim (fun q4=>(.ret,⟨[(4,I q4)],[],[]⟩)) (fun q5=>(.exit 0,⟨[],[],[]⟩))) [] hB h (fun y1 t h=> ?_) (fun q h=> ?_)
 ·unfold qb at h;refine z.a8.g ?_;refine zn h (fun _ h=> ?_) (fun _ h=> ?_)
  ·refine z.a.O.j7.g ?_;refine Qh h (fun v2 _ h=> ?_);refine l_load_agg ?_;refine l_callF hc_f h (fun _=>hf_f) (fun v3 _ h=> ?_);refine z.e.g ?_;refine zn h (fun _ h=> ?_) (fun _ h=> ?_)
   ·refine z.E.b.g ?_;exact zr [] hB h
   refine z.d8.g ?_;exact zu [] hB h
  refine z.l.g ?_;exact zr [] hB h
 rcases q with q4|q5
 ·dsimp only [Sum.elim] at h ⊢
  refine z.B.g ?_;apply za [] hB h
 dsimp only [Sum.elim] at h ⊢
 refine z.l7.g ?_;apply za [] hB h
theorem slices_ContainsFunc_Decl_ok {s:(List zb)}{f:(zb→Option Bool)}{fk_f:Nat}{fc_f:List AV}(hf_f: ∀ {x0:zb} {r:Bool},f x0=some r→XSpec Tryz.prog fk_f ((.agg (zl x0))::fc_f) [] (B r) [] [])(hc_f:AV.closedL fc_f=true∧AV.onlyL [] fc_f=true){r:Bool}(h:Zh s f=some r):XSpec Tryz.prog 251 [.vs s.length (F zl s),.fn (.func fk_f) [] fc_f] [] (B r) [] []:=by
 unfold Zh at h;refine zc Tryz.hU Tryz.func251 (fun _ _ _ hB=> ?_);refine z.k6.g ?_;refine zo h (fun _=>slices_IndexFunc_Decl_ok (fun h=>hf_f h) hc_f) (fun v1 _ h=> ?_);refine z.h.d7.g ?_;apply za [] hB h
theorem doc_prefix_ok {s:Str}{r:Bool}(h:zaj s=some r):XSpec Tryz.prog 253 [S s] [] (B r) [] []:=by
 unfold zaj at h;refine zc Tryz.hU Tryz.func253 (fun _ _ _ hB=> ?_);refine z.a.b4.a1.g ?_;refine zd h (fun _ h=> ?_) (fun _ h=> ?_)
 ·refine z.c3.n.g ?_;apply za [] hB h
 refine z.f.g ?_;refine zo h (fun _=>QM) (fun v1 _ h=> ?_);refine z.b9.g ?_;apply za [] hB h
theorem JH {s:Str}{r:Bool}(h:J6 s=some r):XSpec Tryz.prog 222 [S s] [] (B r) [] []:=by
 unfold J6 at h;refine zc Tryz.hU Tryz.func222 (fun _ _ _ hB=> ?_);refine z.o9.a1.g ?_;refine l_callB h (fun _=>utf_Text_ok) (fun v1 _ h=> ?_);refine z.h.g ?_;apply za [] hB h
theorem doc_declared_ok {l:(List zb)}{r:Bool}(h:doc_declared l=some r):XSpec Tryz.prog 220 [.vs l.length (F zl l)] [] (B r) [] []:=by
 unfold doc_declared at h;refine zc Tryz.hU Tryz.func220 (fun _ _ _ hB=> ?_);refine z.d3.d6.g ?_;refine zF (fun y1=>⟨[(0,.vs l.length (F zl l)),(6,.vs l.length (F zl l)),(7,I (l.length:Int)),(8,I y1)],[],[]⟩) (Sum.elim (fun q7=>(.ret,⟨[(2,B false)],[],[]⟩)) (fun q8=>(.exit 0,⟨[],[],[]⟩))) [] hB h (fun y1 t h=> ?_) (fun q h=> ?_)
 ·unfold Qf at h;refine z.a8.g ?_;refine zn h (fun _ h=> ?_) (fun _ h=> ?_)
  ·refine z.j7.g ?_;refine Qh h (fun v2 _ h=> ?_);refine z.i.e7.D.d1.a6.g ?_;refine l_subf h (fun v3 _ h=> ?_);refine l_makeFunc ?_;refine l_callB h (fun _=>slices_ContainsFunc_Decl_ok (fun h=>doc_declared_c1_ok h) ⟨rfl,rfl⟩) (fun v4 _ h=> ?_);refine z.O.g ?_;refine zd h (fun _ h=> ?_) (fun _ h=> ?_)
   ·refine z.f6.l4.k.e6.K.K.l4.j.g ?_;exact zr [] hB h
   refine z.H.g ?_;refine zo h (fun _=>doc_prefix_ok) (fun v5 _ h=> ?_);refine z.p.Z.g ?_;refine zd h (fun _ h=> ?_) (fun _ h=> ?_)
   ·refine z.f6.l4.k.e6.K.K.k.g ?_;exact zr [] hB h
   refine z.p.k2.g ?_;refine zd h (fun _ h=> ?_) (fun _ h=> ?_)
   ·refine z.f6.l4.k.e6.e6.g ?_;exact zr [] hB h
   refine z.H.g ?_;refine zo h (fun _=>JH) (fun v6 _ h=> ?_);refine z.p.Z.g ?_;refine zd h (fun _ h=> ?_) (fun _ h=> ?_)
   ·refine z.f6.l4.k.e6.j.g ?_;exact zr [] hB h
   refine z.x.k2.g ?_;refine zd h (fun _ h=> ?_) (fun _ h=> ?_)
   ·refine z.p.j3.j5.H.g ?_;refine zd h (fun _ h=> ?_) (fun _ h=> ?_)
    ·refine z.f6.l4.k.j.g ?_;exact zr [] hB h
    refine z.p.q7.a5.k2.k2.g ?_;refine zd h (fun _ h=> ?_) (fun _ h=> ?_)
    ·refine z.f6.k.g ?_;exact zr [] hB h
    refine z.c5.k2.g ?_;refine zn h (fun _ h=> ?_) (fun _ h=> ?_)
    ·refine z.j8.g ?_;exact zr [] hB h
    refine z.d8.g ?_;exact zu [] hB h
   refine z.p.q7.a5.k2.k2.p.j4.k.g ?_;refine zd h (fun _ h=> ?_) (fun _ h=> ?_)
   ·refine z.f6.k.g ?_;exact zr [] hB h
   refine z.c5.k2.g ?_;refine zn h (fun _ h=> ?_) (fun _ h=> ?_)
   ·refine z.j8.g ?_;exact zr [] hB h
   refine z.d8.g ?_;exact zu [] hB h
  refine z.l.g ?_;exact zr [] hB h
 rcases q with q7|q8
 ·dsimp only [Sum.elim] at h ⊢
  refine z.B.g ?_;apply za [] hB h
 dsimp only [Sum.elim] at h ⊢
 refine z.l7.g ?_;apply za [] hB h
theorem doc_means_ok {l:(List zf)}{n:Int}{p:Str}{r:Str×Bool}(h:doc_means l n p=some r):XSpec Tryz.prog 254 [.vs l.length (F zm l),I n,S p] [] (.tup [S r.1,B r.2]) [] []:=by
 unfold doc_means at h;refine zc Tryz.hU Tryz.func254 (fun _ _ _ hB=> ?_);refine z.e.b4.J.a7.g ?_;refine zn h (fun _ h=> ?_) (fun _ h=> ?_)
 ·refine z.U.g ?_;apply za [] hB h
 refine z.W.g ?_;refine zF (fun y1=>⟨[(0,.vs l.length (F zm l)),(1,I y1),(2,S p)],[],[]⟩) (Sum.elim (fun q8=>(.ret,⟨[(6,S q8),(7,B true)],[],[]⟩)) (fun q9=>(.exit 0,⟨[(2,S p)],[],[]⟩))) [] hB h (fun y1 t h=> ?_) (fun q h=> ?_)
 ·unfold doc_means_b1 at h;refine z.q.V.g ?_;refine zn h (fun _ h=> ?_) (fun _ h=> ?_)
  ·refine z.i.W.g ?_;refine Qh h (fun v2 _ h=> ?_);refine z.d3.G.g ?_;refine zF (fun y3=>⟨[(0,.vs l.length (F zm l)),(1,I y1),(2,S p),(23,.vs v2.Decls.length (F zl v2.Decls)),(24,I (v2.Decls.length:Int)),(25,I y3)],[],[]⟩) (Sum.elim (fun q5=>(.ret,⟨[(6,S q5),(7,B true)],[],[]⟩)) (fun q6=>(.exit 2,⟨[(0,.vs l.length (F zm l)),(1,I y1),(2,S p)],[],[]⟩))) [] hB h (fun y3 t h=> ?_) (fun q h=> ?_)
   ·unfold doc_means_b2 at h;refine z.a8.g ?_;refine zn h (fun _ h=> ?_) (fun _ h=> ?_)
    ·refine z.c.W.g ?_;refine Qh h (fun v4 _ h=> ?_);refine z.e.b4.a.e2.e7.d1.a6.g ?_;refine zn h (fun _ h=> ?_) (fun _ h=> ?_)
     ·refine z.B.N.e2.g ?_;exact zr [] hB h
     refine z.d8.g ?_;exact zu [] hB h
    refine z.l.g ?_;exact zr [] hB h
   rcases q with q5|q6
   ·dsimp only [Sum.elim] at h ⊢
    refine z.B.C.g ?_;exact zr [] hB h
   dsimp only [Sum.elim] at h ⊢
   refine z.y.f0.n9.g ?_;refine Qh h (fun v7 _ h=> ?_);refine z.s.G.g ?_;exact zu [] hB h
  refine z.l.g ?_;exact zr [] hB h
 rcases q with q8|q9
 ·dsimp only [Sum.elim] at h ⊢
  refine z.B.g ?_;apply za [] hB h
 dsimp only [Sum.elim] at h ⊢
 refine z.N.b4.k7.g ?_;apply za [] hB h
theorem doc_named_c1_ok {o:zP}{p1:zP}{r:Bool}(h:zaw o p1=some r):XSpec Tryz.prog 256 [.agg (qp o),.vptr (qp p1)] [] (B r) [] []:=by
 unfold zaw at h;refine zc Tryz.hU Tryz.func256 (fun _ _ _ hB=> ?_);refine z.a.b4.G.e2.o.l2.g ?_;refine zd h (fun _ h=> ?_) (fun _ h=> ?_)
 ·refine z.c3.b4.o5.H.g ?_;apply za [] hB h
 refine z.b9.b5.j.g ?_;apply za [] hB h
theorem slices_IndexFunc_Attr_ok {s:(List zP)}{f:(zP→Option Bool)}{fk_f:Nat}{fc_f:List AV}(hf_f: ∀ {x0:zP} {r:Bool},f x0=some r→XSpec Tryz.prog fk_f ((.agg (qp x0))::fc_f) [] (B r) [] [])(hc_f:AV.closedL fc_f=true∧AV.onlyL [] fc_f=true){r:Int}(h:QS s f=some r):XSpec Tryz.prog 270 [.vs s.length (F qp s),.fn (.func fk_f) [] fc_f] [] (I r) [] []:=by
 unfold QS at h;refine zc Tryz.hU Tryz.func270 (fun _ _ _ hB=> ?_);refine z.d3.d6.g ?_;refine zF (fun y1=>⟨[(0,.vs s.length (F qp s)),(1,.fn (.func fk_f) [] fc_f),(7,I (s.length:Int)),(8,I y1)],[],[]⟩) (Sum.elim (fun q4=>(.ret,⟨[(4,I q4)],[],[]⟩)) (fun q5=>(.exit 0,⟨[],[],[]⟩))) [] hB h (fun y1 t h=> ?_) (fun q h=> ?_)
 ·unfold z7 at h;refine z.a8.g ?_;refine zn h (fun _ h=> ?_) (fun _ h=> ?_)
  ·refine z.a.O.j7.g ?_;refine Qh h (fun v2 _ h=> ?_);refine l_load_agg ?_;refine l_callF hc_f h (fun _=>hf_f) (fun v3 _ h=> ?_);refine z.e.g ?_;refine zn h (fun _ h=> ?_) (fun _ h=> ?_)
   ·refine z.E.b.g ?_;exact zr [] hB h
   refine z.d8.g ?_;exact zu [] hB h
  refine z.l.g ?_;exact zr [] hB h
 rcases q with q4|q5
 ·dsimp only [Sum.elim] at h ⊢
  refine z.B.g ?_;apply za [] hB h
 dsimp only [Sum.elim] at h ⊢
 refine z.l7.g ?_;apply za [] hB h
theorem zag {s:(List zP)}{f:(zP→Option Bool)}{fk_f:Nat}{fc_f:List AV}(hf_f: ∀ {x0:zP} {r:Bool},f x0=some r→XSpec Tryz.prog fk_f ((.agg (qp x0))::fc_f) [] (B r) [] [])(hc_f:AV.closedL fc_f=true∧AV.onlyL [] fc_f=true){r:Bool}(h:qC s f=some r):XSpec Tryz.prog 255 [.vs s.length (F qp s),.fn (.func fk_f) [] fc_f] [] (B r) [] []:=by
 unfold qC at h;refine zc Tryz.hU Tryz.func255 (fun _ _ _ hB=> ?_);refine z.k6.g ?_;refine zo h (fun _=>slices_IndexFunc_Attr_ok (fun h=>hf_f h) hc_f) (fun v1 _ h=> ?_);refine z.h.d7.g ?_;apply za [] hB h
theorem doc_named_ok {l:(List zf)}{n:Int}{r:Bool}(h:doc_named l n=some r):XSpec Tryz.prog 221 [.vs l.length (F zm l),I n] [] (B r) [] []:=by
 unfold doc_named at h;refine zc Tryz.hU Tryz.func221 (fun _ _ _ hB=> ?_);refine z.k6.g ?_;refine Qh h (fun v1 _ h=> ?_);refine z.G.i.e7.d1.a6.g ?_;refine zo h (fun _=>doc_means_ok) (fun v2 _ h=> ?_);refine z.f3.b7.g ?_;refine qQ (fun q5=>(.normal,⟨[(0,.vs l.length (F zm l)),(1,I n),(5,.ptr 1005 0),(49,B q5)],[(1005,.box 48 [I v1.Kind,I v1.Parent,S v1.Prefix,S v1.Local,S v1.URI,S v1.Text,.vs v1.Decls.length (F zl v1.Decls),.vs v1.Attrs.length (F qp v1.Attrs)])],[]⟩)) h (fun t h=> ?_) (fun q5 h=> ?_)
 ·refine z.f8.m.g ?_;refine zd h (fun _ h=> ?_) (fun _ h=> ?_)
  ·refine z.P.l4.K.e6.g ?_;exact zq [(1005,1005)] hB h
  refine z.p.j5.o5.f.g ?_;refine zd h (fun _ h=> ?_) (fun _ h=> ?_)
  ·refine z.P.l4.e6.g ?_;exact zq [(1005,1005)] hB h
  refine z.H.g ?_;refine zo h (fun _=>QM) (fun v3 _ h=> ?_);refine z.p.Z.g ?_;refine zd h (fun _ h=> ?_) (fun _ h=> ?_)
  ·refine z.P.l4.j.g ?_;exact zq [(1005,1005)] hB h
  refine z.H.g ?_;refine zo h (fun _=>doc_prefix_ok) (fun v4 _ h=> ?_);refine l_to [(1005,1005)] ⟨[(0,.vs l.length (F zm l)),(1,I n),(5,.ptr 1005 0),(39,B false),(42,B v4)],[(1005,.box 48 [I v1.Kind,I v1.Parent,S v1.Prefix,S v1.Local,S v1.URI,S v1.Text,.vs v1.Decls.length (F zl v1.Decls),.vs v1.Attrs.length (F qp v1.Attrs)])],[]⟩ hB ?_;refine z.p.Z.g ?_;refine zd h (fun _ h=> ?_) (fun _ h=> ?_)
  ·refine z.P.k.g ?_;exact zq [(1005,1005)] hB h
  refine z.c8.k2.g ?_;exact zq [(1005,1005)] hB h
 refine f_t ?_;refine zn h (fun _ h=> ?_) (fun _ h=> ?_)
 ·refine z.S.g ?_;apply za [] hB h
 refine z.d3.e2.e3.g ?_;refine zF (fun y6=>⟨[(0,.vs l.length (F zm l)),(1,I n),(5,.ptr 1005 0),(51,.vs v1.Attrs.length (F qp v1.Attrs)),(52,I (v1.Attrs.length:Int)),(53,I y6)],[(1005,.box 48 [I v1.Kind,I v1.Parent,S v1.Prefix,S v1.Local,S v1.URI,S v1.Text,.vs v1.Decls.length (F zl v1.Decls),.vs v1.Attrs.length (F qp v1.Attrs)])],[]⟩) (Sum.elim (fun q21=>(.ret,⟨[(4,B false)],[],[]⟩)) (fun q22=>(.exit 0,⟨[],[],[]⟩))) [(1005,1005)] hB h (fun y6 t h=> ?_) (fun q h=> ?_)
 ·unfold JV at h;refine z.a8.g ?_;refine zn h (fun _ h=> ?_) (fun _ h=> ?_)
  ·refine z.j7.g ?_;refine Qh h (fun v7 _ h=> ?_);refine z.G.i.e7.D.d1.a6.g ?_;refine zo h (fun _=>doc_means_ok) (fun v8 _ h=> ?_);refine z.e.b4.e2.b1.b7.g ?_;refine zn h (fun _ h=> ?_) (fun _ h=> ?_)
   ·refine z.a.e2.o.o1.g ?_;refine l_subf h (fun v9 _ h=> ?_);refine l_makeFunc ?_;refine l_callB h (fun _=>zag (fun h=>doc_named_c1_ok h) ⟨rfl,rfl⟩) (fun v10 _ h=> ?_);refine z.O.g ?_;refine zd h (fun _ h=> ?_) (fun _ h=> ?_)
    ·refine z.f6.e6.K.l4.K.K.K.n.g ?_;exact zr [] hB h
    refine z.p.i8.f.g ?_;refine zd h (fun _ h=> ?_) (fun _ h=> ?_)
    ·refine z.f6.e6.K.l4.K.e6.g ?_;exact zr [] hB h
    refine z.p.j5.o5.f.g ?_;refine zd h (fun _ h=> ?_) (fun _ h=> ?_)
    ·refine z.f6.e6.K.l4.e6.g ?_;exact zr [] hB h
    refine z.H.g ?_;refine zo h (fun _=>QM) (fun v11 _ h=> ?_);refine z.p.Z.g ?_;refine zd h (fun _ h=> ?_) (fun _ h=> ?_)
    ·refine z.f6.e6.K.l4.j.g ?_;exact zr [] hB h
    refine z.H.g ?_;refine zo h (fun _=>doc_prefix_ok) (fun v12 _ h=> ?_);refine l_to [(1005,1005),(1009,1009)] ⟨[(0,.vs l.length (F zm l)),(1,I n),(5,.ptr 1005 0),(9,.ptr 1009 0),(51,.vs v1.Attrs.length (F qp v1.Attrs)),(52,I (v1.Attrs.length:Int)),(53,I y6),(77,B v8.2),(78,B (!v8.2)),(81,S []),(82,.ptr 1009 2),(83,S v7.URI),(84,B (!([]==v7.URI))),(87,.ptr 1009 1),(88,S v7.Local),(89,B v11),(90,B (!v11)),(92,B false),(93,.ptr 1009 0),(94,S v7.Prefix),(95,B v12)],[(1005,.box 48 [I v1.Kind,I v1.Parent,S v1.Prefix,S v1.Local,S v1.URI,S v1.Text,.vs v1.Decls.length (F zl v1.Decls),.vs v1.Attrs.length (F qp v1.Attrs)]),(1009,.box 126 [S v7.Prefix,S v7.Local,S v7.URI,S v7.Value])],[]⟩ hB ?_;refine z.p.Z.g ?_;refine zd h (fun _ h=> ?_) (fun _ h=> ?_)
    ·refine z.f6.e6.K.k.g ?_;exact zr [] hB h
    refine z.p.k2.g ?_;refine zd h (fun _ h=> ?_) (fun _ h=> ?_)
    ·refine z.f6.e6.j.g ?_;exact zr [] hB h
    refine z.x.k2.g ?_;refine zd h (fun _ h=> ?_) (fun _ h=> ?_)
    ·refine z.p.j3.k2.g ?_;refine zd h (fun _ h=> ?_) (fun _ h=> ?_)
     ·refine z.f6.j.g ?_;exact zr [] hB h
     refine z.H.g ?_;refine zo h (fun _=>JH) (fun v13 _ h=> ?_);refine z.c5.Z.g ?_;refine zn h (fun _ h=> ?_) (fun _ h=> ?_)
     ·refine z.j8.g ?_;exact zr [] hB h
     refine z.d8.g ?_;exact zu [(1005,1005)] hB h
    refine z.H.p.j4.k.g ?_;refine zo h (fun _=>JH) (fun v14 _ h=> ?_);refine z.c5.Z.g ?_;refine zn h (fun _ h=> ?_) (fun _ h=> ?_)
    ·refine z.j8.g ?_;exact zr [] hB h
    refine z.d8.g ?_;exact zu [(1005,1005)] hB h
   refine z.a.e2.M.g ?_;refine l_subf h (fun v15 _ h=> ?_);refine l_makeFunc ?_;refine l_callB h (fun _=>zag (fun h=>doc_named_c1_ok h) ⟨rfl,rfl⟩) (fun v16 _ h=> ?_);refine z.O.g ?_;refine zd h (fun _ h=> ?_) (fun _ h=> ?_)
   ·refine z.f6.e6.K.l4.K.K.K.n.g ?_;exact zr [] hB h
   refine z.p.i8.f.g ?_;refine zd h (fun _ h=> ?_) (fun _ h=> ?_)
   ·refine z.f6.e6.K.l4.K.e6.g ?_;exact zr [] hB h
   refine z.p.j5.o5.f.g ?_;refine zd h (fun _ h=> ?_) (fun _ h=> ?_)
   ·refine z.f6.e6.K.l4.e6.g ?_;exact zr [] hB h
   refine z.H.g ?_;refine zo h (fun _=>QM) (fun v17 _ h=> ?_);refine z.p.Z.g ?_;refine zd h (fun _ h=> ?_) (fun _ h=> ?_)
   ·refine z.f6.e6.K.l4.j.g ?_;exact zr [] hB h
   refine z.H.g ?_;refine zo h (fun _=>doc_prefix_ok) (fun v18 _ h=> ?_);refine l_to [(1005,1005),(1009,1009)] ⟨[(0,.vs l.length (F zm l)),(1,I n),(5,.ptr 1005 0),(9,.ptr 1009 0),(51,.vs v1.Attrs.length (F qp v1.Attrs)),(52,I (v1.Attrs.length:Int)),(53,I y6),(77,B v8.2),(78,B (!v8.2)),(81,S v8.1),(82,.ptr 1009 2),(83,S v7.URI),(84,B (!(v8.1==v7.URI))),(87,.ptr 1009 1),(88,S v7.Local),(89,B v17),(90,B (!v17)),(92,B false),(93,.ptr 1009 0),(94,S v7.Prefix),(95,B v18)],[(1005,.box 48 [I v1.Kind,I v1.Parent,S v1.Prefix,S v1.Local,S v1.URI,S v1.Text,.vs v1.Decls.length (F zl v1.Decls),.vs v1.Attrs.length (F qp v1.Attrs)]),(1009,.box 126 [S v7.Prefix,S v7.Local,S v7.URI,S v7.Value])],[]⟩ hB ?_;refine z.p.Z.g ?_;refine zd h (fun _ h=> ?_) (fun _ h=> ?_)
   ·refine z.f6.e6.K.k.g ?_;exact zr [] hB h
   refine z.p.k2.g ?_;refine zd h (fun _ h=> ?_) (fun _ h=> ?_)
   ·refine z.f6.e6.j.g ?_;exact zr [] hB h
   refine z.x.k2.g ?_;refine zd h (fun _ h=> ?_) (fun _ h=> ?_)
   ·refine z.p.j3.k2.g ?_;refine zd h (fun _ h=> ?_) (fun _ h=> ?_)
    ·refine z.f6.j.g ?_;exact zr [] hB h
    refine z.H.g ?_;refine zo h (fun _=>JH) (fun v19 _ h=> ?_);refine z.c5.Z.g ?_;refine zn h (fun _ h=> ?_) (fun _ h=> ?_)
    ·refine z.j8.g ?_;exact zr [] hB h
    refine z.d8.g ?_;exact zu [(1005,1005)] hB h
   refine z.H.p.j4.k.g ?_;refine zo h (fun _=>JH) (fun v20 _ h=> ?_);refine z.c5.Z.g ?_;refine zn h (fun _ h=> ?_) (fun _ h=> ?_)
   ·refine z.j8.g ?_;exact zr [] hB h
   refine z.d8.g ?_;exact zu [(1005,1005)] hB h
  refine z.l.g ?_;exact zr [] hB h
 rcases q with q21|q22
 ·dsimp only [Sum.elim] at h ⊢
  refine z.B.g ?_;apply za [] hB h
 dsimp only [Sum.elim] at h ⊢
 refine z.l7.g ?_;apply za [] hB h
theorem stringslite_HasSuffix_ok {s:Str}{suffix:Str}{r:Bool}(h:QQ s suffix=some r):XSpec Tryz.prog 257 [S s,S suffix] [] (B r) [] []:=by
 unfold QQ at h;refine zc Tryz.hU Tryz.func257 (fun _ _ _ hB=> ?_);refine z.F.a3.a.a3.a1.g ?_;refine zd h (fun _ h=> ?_) (fun _ h=> ?_)
 ·refine z.a5.R.a5.a3.f.a3.f.x.g ?_;refine ZF h (fun v1 _ h=> ?_);refine z.c3.b4.f.g ?_;apply za [] hB h
 refine z.b9.b5.j.j.g ?_;apply za [] hB h
theorem strings_HasSuffix_ok {s:Str}{suffix:Str}{r:Bool}(h:QZ s suffix=some r):XSpec Tryz.prog 223 [S s,S suffix] [] (B r) [] []:=by
 unfold QZ at h;refine zc Tryz.hU Tryz.func223 (fun _ _ _ hB=> ?_);refine z.k6.g ?_;refine zo h (fun _=>stringslite_HasSuffix_ok) (fun v1 _ h=> ?_);refine z.h.g ?_;apply za [] hB h
theorem doc_target_ok {s:Str}{r:Bool}(h:zaU s=some r):XSpec Tryz.prog 224 [S s] [] (B r) [] []:=by
 unfold zaU at h;refine zc Tryz.hU Tryz.func224 (fun _ _ _ hB=> ?_);refine z.F.a3.a1.g ?_;refine zd h (fun _ h=> ?_) (fun _ h=> ?_)
 ·refine z.f.g ?_;refine QI h (fun v1 _ h=> ?_);refine z.x.c7.g ?_;refine zd h (fun _ h=> ?_) (fun _ h=> ?_)
  ·refine z.f.a2.j3.k.g ?_;refine QI h (fun v2 _ h=> ?_);refine z.x.c7.g ?_;refine zd h (fun _ h=> ?_) (fun _ h=> ?_)
   ·refine z.f.a2.j3.k.g ?_;refine QI h (fun v3 _ h=> ?_);refine z.x.c7.g ?_;refine zd h (fun _ h=> ?_) (fun _ h=> ?_)
    ·refine z.c3.j3.k.g ?_;apply za [] hB h
    refine z.f.g ?_;refine QI h (fun v4 _ h=> ?_);refine z.c3.j4.c7.g ?_;apply za [] hB h
   refine z.f.g ?_;refine QI h (fun v5 _ h=> ?_);refine z.a2.j4.c7.g ?_;refine zd h (fun _ h=> ?_) (fun _ h=> ?_)
   ·refine z.f.g ?_;refine QI h (fun v6 _ h=> ?_);refine z.x.c7.g ?_;refine zd h (fun _ h=> ?_) (fun _ h=> ?_)
    ·refine z.c3.j3.k.g ?_;apply za [] hB h
    refine z.f.g ?_;refine QI h (fun v7 _ h=> ?_);refine z.c3.j4.c7.g ?_;apply za [] hB h
   refine z.b9.j.j.g ?_;apply za [] hB h
  refine z.f.g ?_;refine QI h (fun v8 _ h=> ?_);refine z.a2.j4.c7.g ?_;refine zd h (fun _ h=> ?_) (fun _ h=> ?_)
  ·refine z.f.g ?_;refine QI h (fun v9 _ h=> ?_);refine z.x.c7.g ?_;refine zd h (fun _ h=> ?_) (fun _ h=> ?_)
   ·refine z.f.a2.j3.k.g ?_;refine QI h (fun v10 _ h=> ?_);refine z.x.c7.g ?_;refine zd h (fun _ h=> ?_) (fun _ h=> ?_)
    ·refine z.c3.j3.k.g ?_;apply za [] hB h
    refine z.f.g ?_;refine QI h (fun v11 _ h=> ?_);refine z.c3.j4.c7.g ?_;apply za [] hB h
   refine z.f.g ?_;refine QI h (fun v12 _ h=> ?_);refine z.a2.j4.c7.g ?_;refine zd h (fun _ h=> ?_) (fun _ h=> ?_)
   ·refine z.f.g ?_;refine QI h (fun v13 _ h=> ?_);refine z.x.c7.g ?_;refine zd h (fun _ h=> ?_) (fun _ h=> ?_)
    ·refine z.c3.j3.k.g ?_;apply za [] hB h
    refine z.f.g ?_;refine QI h (fun v14 _ h=> ?_);refine z.c3.j4.c7.g ?_;apply za [] hB h
   refine z.b9.j.j.g ?_;apply za [] hB h
  refine z.b9.j.i9.j.j.g ?_;apply za [] hB h
 refine z.b9.j.i9.j.i9.j.j.g ?_;apply za [] hB h
end Go.Proofs.YtojbjdcflgeibaaGreatDoor
