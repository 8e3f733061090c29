/- WALKS, printed by aw.py: that the program's functions compute the plain ones. Conditions: none. -/
import Derived.Test.YtojbjdcflgeibaaGreatDoorQWalk1
set_option linter.unusedVariables false
set_option linter.unusedSimpArgs false
set_option maxRecDepth 20000
set_option maxHeartbeats 4000000
namespace Go.Proofs.YtojbjdcflgeibaaGreatDoor
open Go Go.Abs W G
theorem chars_number_ok {s:Str}{base:Int}{r:Int×Bool}(h:Jw s base=some r):XSpec Tryz.prog 267 [S s,.pl (.int .i32 base)] [] (.tup [.pl (.int .i32 r.1),B r.2]) [] []:=by
 unfold Jw at h;refine zd Tryz.hU Tryz.func267 (fun _ _ _ hB=> ?_);refine z.p0.V.e9.j.t.g ?_;refine zH (fun y1=>⟨[(0,S s),(1,.pl (.int .i32 base)),(6,.pl (.int .i32 y1.1)),(11,I (s.length:Int)),(12,I y1.2)],[],[]⟩) (Sum.elim (fun q5=>(.ret,⟨[(4,.pl (.int .i32 0)),(5,B false)],[],[]⟩)) (fun q6=>(.exit 0,⟨[(0,S s),(6,.pl (.int .i32 q6))],[],[]⟩))) [] hB h (fun y1 t h=> ?_) (fun q h=> ?_)
 ·unfold qr at h;refine z.b8.g ?_;refine zn h (fun _ h=> ?_) (fun _ h=> ?_)
  ·refine z.p.k7.g ?_;refine Qz h (fun v2 _ h=> ?_);refine z.H.c9.b4.x.h7.g ?_;refine qW (fun q3=>(.normal,⟨[(0,S s),(1,.pl (.int .i32 base)),(6,.pl (.int .i32 y1.1)),(8,.pl (.int .i32 (w32 (v2.toNat:Int)))),(9,.pl (.int .i32 base)),(11,I (s.length:Int)),(12,I y1.2),(20,B q3)],[],[]⟩)) h (fun t h=> ?_) (fun q3 h=> ?_)
   ·refine z.w.h.g ?_;refine zc h (fun _ h=> ?_) (fun _ h=> ?_)
    ·refine z.E.c7.v.g ?_;exact zp [] hB h
    refine z.E.e7.g ?_;exact zp [] hB h
   refine f_t ?_;refine zn h (fun _ h=> ?_) (fun _ h=> ?_)
   ·refine z.i8.h1.E.S.h.g ?_;refine zn h (fun _ h=> ?_) (fun _ h=> ?_)
    ·refine z.a1.Q.g ?_;exact zr [] hB h
    refine z.e1.E.p1.d6.a.m7.C.I.g ?_;exact zu [] hB h
   refine k_seq ?_;refine qW (fun q4=>(.normal,⟨[(0,S s),(1,.pl (.int .i32 base)),(6,.pl (.int .i32 y1.1)),(8,.pl (.int .i32 (w32 (v2.toNat:Int)))),(9,.pl (.int .i32 base)),(11,I (s.length:Int)),(12,I y1.2),(29,B q4)],[],[]⟩)) h (fun t h=> ?_) (fun q4 h=> ?_)
   ·refine z.w.h.g ?_;refine zc h (fun _ h=> ?_) (fun _ h=> ?_)
    ·refine z.E.c7.v.g ?_;exact zp [] hB h
    refine z.E.e7.g ?_;exact zp [] hB h
   refine f_t ?_;refine zn h (fun _ h=> ?_) (fun _ h=> ?_)
   ·refine z.i8.h1.c2.S.h.g ?_;refine zn h (fun _ h=> ?_) (fun _ h=> ?_)
    ·refine z.a1.Q.g ?_;exact zr [] hB h
    refine z.e1.E.p1.d6.a.m7.C.I.g ?_;exact zu [] hB h
   refine z.w.b.g ?_;refine zc h (fun _ h=> ?_) (fun _ h=> ?_)
   ·refine z.j.c7.v.g ?_;refine zn h (fun _ h=> ?_) (fun _ h=> ?_)
    ·refine z.i8.h1.c2.S.h.g ?_;refine zn h (fun _ h=> ?_) (fun _ h=> ?_)
     ·refine z.a1.Q.g ?_;exact zr [] hB h
     refine z.e1.E.p1.d6.a.m7.C.I.g ?_;exact zu [] hB h
    refine z.i8.h1.Y.g ?_;refine zn h (fun _ h=> ?_) (fun _ h=> ?_)
    ·refine z.a1.Q.g ?_;exact zr [] hB h
    refine z.e1.E.p1.d6.a.m7.C.I.g ?_;exact zu [] hB h
   refine z.i8.h1.Y.i0.j.e7.g ?_;refine zn h (fun _ h=> ?_) (fun _ h=> ?_)
   ·refine z.a1.Q.g ?_;exact zr [] hB h
   refine z.e1.E.p1.d6.a.m7.C.I.g ?_;exact zu [] hB h
  refine z.k.g ?_;exact zr [] hB h
 rcases q with q5|q6
 ·dsimp only [Sum.elim] at h ⊢
  refine z.a1.g ?_;apply zb [] hB h
 dsimp only [Sum.elim] at h ⊢
 refine z.a3.j0.i.P.g ?_;apply zb [] hB h
theorem utf8_ValidRune_ok {r_:Int}{r:Bool}(h:JY r_=some r):XSpec Tryz.prog 277 [.pl (.int .i32 r_)] [] (B r) [] []:=by
 unfold JY at h;refine zd Tryz.hU Tryz.func277 (fun _ _ _ hB=> ?_);refine z.w.b.c9.k3.g ?_;refine zc h (fun _ h=> ?_) (fun _ h=> ?_)
 ·refine z.j.c7.v.g ?_;refine zn h (fun _ h=> ?_) (fun _ h=> ?_)
  ·refine z.j6.g ?_;apply zb [] hB h
  refine z.w.b.g ?_;refine zc h (fun _ h=> ?_) (fun _ h=> ?_)
  ·refine z.j.c7.v.g ?_;refine zn h (fun _ h=> ?_) (fun _ h=> ?_)
   ·refine z.j6.g ?_;apply zb [] hB h
   refine z.b2.h1.Y.g ?_;apply zb [] hB h
  refine z.b2.h1.Y.i0.j.e7.g ?_;apply zb [] hB h
 refine z.w.b.i0.j.e7.g ?_;refine zc h (fun _ h=> ?_) (fun _ h=> ?_)
 ·refine z.j.c7.v.g ?_;refine zn h (fun _ h=> ?_) (fun _ h=> ?_)
  ·refine z.j6.g ?_;apply zb [] hB h
  refine z.b2.h1.Y.g ?_;apply zb [] hB h
 refine z.b2.h1.Y.i0.j.e7.g ?_;apply zb [] hB h
theorem utf8_appendRuneNonASCII_ok {p:Str}{r_:Int}{r:Str}(h:Z6 p r_=some r):XSpec Tryz.prog 285 [.sl 101 0 p.length,.pl (.int .i32 r_)] [(101,.row 5 1 0 (F cU p))] (.sl 101 0 r.length) [(101,.row 5 1 0 (F cU r))] [101]:=by
 unfold Z6 at h;refine zd Tryz.hU Tryz.func285 (fun _ _ _ hB=> ?_);refine z.j.b7.b.j4.h7.a8.g ?_;refine zn h (fun _ h=> ?_) (fun _ h=> ?_)
 ·refine z.i.g ?_;refine QI (r:=(r_.fdiv (2^6))) ?_;refine z.k9.h9.a.h9.g ?_;refine QM (e:=cU) [(u8 (bor 8 192 ((u8 (r_.fdiv (2^6))).toNat:Int))),(u8 (bor 8 128 ((u8 (band 8 ((u8 r_).toNat:Int) 63)).toNat:Int)))] ?_;refine Q9 h (fun v1 _ h=> ?_);refine z.B.l.g ?_;apply zb [(101,101)] hB h
 refine z.j.b7.T.g ?_;refine zn h (fun _ h=> ?_) (fun _ h=> ?_)
 ·refine z.I.g ?_;refine zn h (fun _ h=> ?_) (fun _ h=> ?_)
  ·refine z.i.g ?_;refine QI (r:=(r_.fdiv (2^12))) ?_;refine z.a.h9.g ?_;refine QI (r:=(r_.fdiv (2^6))) ?_;refine z.k9.h9.a.k9.h9.g ?_;refine QM (e:=cU) [(u8 (bor 8 224 ((u8 (r_.fdiv (2^12))).toNat:Int))),(u8 (bor 8 128 ((u8 (band 8 ((u8 (r_.fdiv (2^6))).toNat:Int) 63)).toNat:Int))),(u8 (bor 8 128 ((u8 (band 8 ((u8 r_).toNat:Int) 63)).toNat:Int)))] ?_;refine Q9 h (fun v2 _ h=> ?_);refine z.B.l.g ?_;apply zb [(101,101)] hB h
  refine k_seq ?_;refine qW (fun q3=>(.normal,⟨[(0,.sl 101 0 p.length),(1,.pl (.int .i32 r_)),(50,B q3)],[(101,.row 5 1 0 (F cU p))],[]⟩)) h (fun t h=> ?_) (fun q3 h=> ?_)
  ·refine z.w.h.g ?_;refine zc h (fun _ h=> ?_) (fun _ h=> ?_)
   ·refine z.E.c7.v.g ?_;exact zp [(101,101)] hB h
   refine z.E.e7.g ?_;exact zp [(101,101)] hB h
  refine f_t ?_;refine zn h (fun _ h=> ?_) (fun _ h=> ?_)
  ·refine z.i.g ?_;refine QI (r:=(r_.fdiv (2^18))) ?_;refine z.a.h9.g ?_;refine QI (r:=(r_.fdiv (2^12))) ?_;refine z.a.k9.h9.g ?_;refine QI (r:=(r_.fdiv (2^6))) ?_;refine z.k9.h9.a.k9.h9.g ?_;refine QM (e:=cU) [(u8 (bor 8 240 ((u8 (r_.fdiv (2^18))).toNat:Int))),(u8 (bor 8 128 ((u8 (band 8 ((u8 (r_.fdiv (2^12))).toNat:Int) 63)).toNat:Int))),(u8 (bor 8 128 ((u8 (band 8 ((u8 (r_.fdiv (2^6))).toNat:Int) 63)).toNat:Int))),(u8 (bor 8 128 ((u8 (band 8 ((u8 r_).toNat:Int) 63)).toNat:Int)))] ?_;refine Q9 h (fun v4 _ h=> ?_);refine z.B.l.g ?_;apply zb [(101,101)] hB h
  refine z.b.g ?_;refine QM (e:=cU) [239,191,189] ?_;refine Q9 h (fun v5 _ h=> ?_);refine z.B.l.g ?_;apply zb [(101,101)] hB h
 refine z.w.h.g ?_;refine zc h (fun _ h=> ?_) (fun _ h=> ?_)
 ·refine z.j.c7.v.g ?_;refine zn h (fun _ h=> ?_) (fun _ h=> ?_)
  ·refine z.i.g ?_;refine QI (r:=(r_.fdiv (2^12))) ?_;refine z.a.h9.g ?_;refine QI (r:=(r_.fdiv (2^6))) ?_;refine z.k9.h9.a.k9.h9.g ?_;refine QM (e:=cU) [(u8 (bor 8 224 ((u8 (r_.fdiv (2^12))).toNat:Int))),(u8 (bor 8 128 ((u8 (band 8 ((u8 (r_.fdiv (2^6))).toNat:Int) 63)).toNat:Int))),(u8 (bor 8 128 ((u8 (band 8 ((u8 r_).toNat:Int) 63)).toNat:Int)))] ?_;refine Q9 h (fun v6 _ h=> ?_);refine z.B.l.g ?_;apply zb [(101,101)] hB h
  refine k_seq ?_;refine qW (fun q7=>(.normal,⟨[(0,.sl 101 0 p.length),(1,.pl (.int .i32 r_)),(50,B q7)],[(101,.row 5 1 0 (F cU p))],[]⟩)) h (fun t h=> ?_) (fun q7 h=> ?_)
  ·refine z.w.h.g ?_;refine zc h (fun _ h=> ?_) (fun _ h=> ?_)
   ·refine z.E.c7.v.g ?_;exact zp [(101,101)] hB h
   refine z.E.e7.g ?_;exact zp [(101,101)] hB h
  refine f_t ?_;refine zn h (fun _ h=> ?_) (fun _ h=> ?_)
  ·refine z.i.g ?_;refine QI (r:=(r_.fdiv (2^18))) ?_;refine z.a.h9.g ?_;refine QI (r:=(r_.fdiv (2^12))) ?_;refine z.a.k9.h9.g ?_;refine QI (r:=(r_.fdiv (2^6))) ?_;refine z.k9.h9.a.k9.h9.g ?_;refine QM (e:=cU) [(u8 (bor 8 240 ((u8 (r_.fdiv (2^18))).toNat:Int))),(u8 (bor 8 128 ((u8 (band 8 ((u8 (r_.fdiv (2^12))).toNat:Int) 63)).toNat:Int))),(u8 (bor 8 128 ((u8 (band 8 ((u8 (r_.fdiv (2^6))).toNat:Int) 63)).toNat:Int))),(u8 (bor 8 128 ((u8 (band 8 ((u8 r_).toNat:Int) 63)).toNat:Int)))] ?_;refine Q9 h (fun v8 _ h=> ?_);refine z.B.l.g ?_;apply zb [(101,101)] hB h
  refine z.b.g ?_;refine QM (e:=cU) [239,191,189] ?_;refine Q9 h (fun v9 _ h=> ?_);refine z.B.l.g ?_;apply zb [(101,101)] hB h
 refine z.H.i0.j.e7.g ?_;refine qW (fun q10=>(.normal,⟨[(0,.sl 101 0 p.length),(1,.pl (.int .i32 r_)),(50,B q10)],[(101,.row 5 1 0 (F cU p))],[]⟩)) h (fun t h=> ?_) (fun q10 h=> ?_)
 ·refine z.w.h.g ?_;refine zc h (fun _ h=> ?_) (fun _ h=> ?_)
  ·refine z.E.c7.v.g ?_;exact zp [(101,101)] hB h
  refine z.E.e7.g ?_;exact zp [(101,101)] hB h
 refine f_t ?_;refine zn h (fun _ h=> ?_) (fun _ h=> ?_)
 ·refine z.i.g ?_;refine QI (r:=(r_.fdiv (2^18))) ?_;refine z.a.h9.g ?_;refine QI (r:=(r_.fdiv (2^12))) ?_;refine z.a.k9.h9.g ?_;refine QI (r:=(r_.fdiv (2^6))) ?_;refine z.k9.h9.a.k9.h9.g ?_;refine QM (e:=cU) [(u8 (bor 8 240 ((u8 (r_.fdiv (2^18))).toNat:Int))),(u8 (bor 8 128 ((u8 (band 8 ((u8 (r_.fdiv (2^12))).toNat:Int) 63)).toNat:Int))),(u8 (bor 8 128 ((u8 (band 8 ((u8 (r_.fdiv (2^6))).toNat:Int) 63)).toNat:Int))),(u8 (bor 8 128 ((u8 (band 8 ((u8 r_).toNat:Int) 63)).toNat:Int)))] ?_;refine Q9 h (fun v11 _ h=> ?_);refine z.B.l.g ?_;apply zb [(101,101)] hB h
 refine z.b.g ?_;refine QM (e:=cU) [239,191,189] ?_;refine Q9 h (fun v12 _ h=> ?_);refine z.B.l.g ?_;apply zb [(101,101)] hB h
theorem utf8_AppendRune_ok {p:Str}{r_:Int}{r:Str}(h:JE p r_=some r):XSpec Tryz.prog 278 [.sl 101 0 p.length,.pl (.int .i32 r_)] [(101,.row 5 1 0 (F cU p))] (.sl 101 0 r.length) [(101,.row 5 1 0 (F cU r))] [101]:=by
 unfold JE at h;refine zd Tryz.hU Tryz.func278 (fun _ _ _ hB=> ?_);refine z.u.h7.e9.g ?_;refine zn h (fun _ h=> ?_) (fun _ h=> ?_)
 ·refine z.q0.i.g ?_;refine QM (e:=cU) [(u8 r_)] ?_;refine Q9 h (fun v1 _ h=> ?_);refine z.l9.g ?_;apply zb [(101,101)] hB h
 refine z.f0.g ?_;refine zi [] [101] h (fun _=>utf8_appendRuneNonASCII_ok) (fun v2 _ h=> ?_);refine z.l.g ?_;apply zb [(101,101)] hB h
theorem utf_Bytes_ok {l:(List Int)}{r:Str×Bool}(h:utf_Bytes l=some r):XSpec Tryz.prog 268 [.vs l.length (F cR l)] [] (.tup [.sl 1 0 r.1.length,B r.2]) [(1,.row 5 1 0 (F cU r.1))] []:=by
 unfold utf_Bytes at h;refine zd Tryz.hU Tryz.func268 (fun _ _ _ hB=> ?_);refine z.e6.e9.j.t.g ?_;refine k_nilrow (te:=5) (t:=4) 3004 1 ?_;refine zH (fun y1=>⟨[(4,.sl 3004 0 y1.2.length),(7,.vs l.length (F cR l)),(8,I (l.length:Int)),(9,I y1.1)],[(3004,.row 5 1 0 (F cU y1.2))],[]⟩) (Sum.elim (fun q5=>(.ret,⟨[(2,.pl (.slice none 0 0)),(3,B false)],[],[]⟩)) (fun q6=>(.exit 0,⟨[(4,.sl 3004 0 q6.length)],[(3004,.row 5 1 0 (F cU q6))],[]⟩))) [(3004,3004)] hB h (fun y1 t h=> ?_) (fun q h=> ?_)
 ·unfold utf_Bytes_b1 at h;refine z.b8.g ?_;refine zn h (fun _ h=> ?_) (fun _ h=> ?_)
  ·refine z.c.a4.g ?_;refine QH h (fun v2 _ h=> ?_);refine z.G.l2.g ?_;refine zm h (fun _=>utf8_ValidRune_ok) (fun v3 _ h=> ?_);refine z.d3.g ?_;refine zn h (fun _ h=> ?_) (fun _ h=> ?_)
   ·refine z.a1.Q.g ?_;exact zr [] hB h
   refine z.C.I.g ?_;refine zi [(101,3004)] [3004] h (fun _=>utf8_AppendRune_ok) (fun v4 _ h=> ?_);refine z.e1.E.g ?_;exact zu [(3004,3004)] hB h
  refine z.k.g ?_;exact zr [(3004,3004)] hB h
 rcases q with q5|q6
 ·dsimp only [Sum.elim] at h ⊢
  refine z.a1.g ?_;refine f_nilrow (te:=5) (t:=2) 3002 1 ?_;apply zb [(3002,1)] hB h
 dsimp only [Sum.elim] at h ⊢
 refine z.a3.i9.g ?_;apply zb [(3004,1)] hB h
theorem zak {s:Str}{r:Str×Bool}(h:QP s=some r):XSpec Tryz.prog 250 [S s] [] (.tup [S r.1,B r.2]) [] []:=by
 unfold QP at h;refine zd Tryz.hU Tryz.func250 (fun _ _ _ hB=> ?_);refine z.x.t.g ?_;refine zm h (fun _=>Z1) (fun v1 _ h=> ?_);refine z.d3.G.M.g ?_;refine zn h (fun _ h=> ?_) (fun _ h=> ?_)
 ·refine z.b.g ?_;refine zm h (fun _=>chars_named_ok) (fun v2 _ h=> ?_);refine z.e5.n1.g ?_;apply zb [] hB h
 refine z.e9.I.g ?_;refine zm h (fun _=>Z1) (fun v3 _ h=> ?_);refine z.e.x.M.g ?_;refine zn h (fun _ h=> ?_) (fun _ h=> ?_)
 ·refine z.p.A.h.g ?_;refine zm h (fun _=>chars_number_ok) (fun v4 _ h=> ?_);refine z.h0.G.M.g ?_;refine zc h (fun _ h=> ?_) (fun _ h=> ?_)
  ·refine z.Q.i5.o.g ?_;apply zb [] hB h
  refine z.f.g ?_;refine zm h (fun _=>utf_Xml_ok) (fun v5 _ h=> ?_);refine z.d7.Z.g ?_;refine zn h (fun _ h=> ?_) (fun _ h=> ?_)
  ·refine z.Q.g ?_;apply zb [] hB h
  refine z.y.g ?_;refine QM (e:=cR) [v4.1] ?_;refine l_frz 1044 ?_;refine zi [(1,104501)] [] h (fun _=>utf_Bytes_ok) (fun v6 _ h=> ?_);refine z.a3.a.p7.x.M.g ?_;apply zb [] hB h
 refine z.f0.g ?_;refine zm h (fun _=>chars_number_ok) (fun v7 _ h=> ?_);refine z.h0.G.M.g ?_;refine zc h (fun _ h=> ?_) (fun _ h=> ?_)
 ·refine z.Q.i5.o.g ?_;apply zb [] hB h
 refine z.f.g ?_;refine zm h (fun _=>utf_Xml_ok) (fun v8 _ h=> ?_);refine z.d7.Z.g ?_;refine zn h (fun _ h=> ?_) (fun _ h=> ?_)
 ·refine z.Q.g ?_;apply zb [] hB h
 refine z.y.g ?_;refine QM (e:=cR) [v7.1] ?_;refine l_frz 1044 ?_;refine zi [(1,104501)] [] h (fun _=>utf_Bytes_ok) (fun v9 _ h=> ?_);refine z.a3.a.p7.x.M.g ?_;apply zb [] hB h
theorem chars_expand_ok {s:Str}{plain:(Str→Option Str)}{fk_plain:Nat}{fc_plain:List AV}(hf_plain: ∀ {x0:Str} {r:Str},plain x0=some r→XSpec Tryz.prog fk_plain ((S x0)::fc_plain) [] (S r) [] [])(hc_plain:AV.closedL fc_plain=true∧AV.onlyL [] fc_plain=true){r:Str×Bool}(h:chars_expand s plain=some r):XSpec Tryz.prog 218 [S s,.fn (.func fk_plain) [] fc_plain] [] (.tup [S r.1,B r.2]) [] []:=by
 unfold chars_expand at h;refine zd Tryz.hU Tryz.func218 (fun _ _ _ hB=> ?_);refine z.f2.t.g ?_;refine qW (fun q3=>(.normal,⟨[(0,S s),(1,.fn (.func fk_plain) [] fc_plain),(22,B q3)],[],[]⟩)) h (fun t h=> ?_) (fun q3 h=> ?_)
 ·refine z.o3.h.g ?_;refine l_callB h (fun _=>utf_Text_ok) (fun v1 _ h=> ?_);refine z.h0.g ?_;refine zc h (fun _ h=> ?_) (fun _ h=> ?_)
  ·refine z.O.n.g ?_;exact zp [] hB h
  refine z.f.g ?_;refine zm h (fun _=>ZK) (fun v2 _ h=> ?_);refine l_to [] ⟨[(0,S s),(1,.fn (.func fk_plain) [] fc_plain),(19,B false),(21,B v2)],[],[]⟩ hB ?_;refine z.b6.g ?_;exact zp [] hB h
 refine f_t ?_;refine zn h (fun _ h=> ?_) (fun _ h=> ?_)
 ·refine z.Q.g ?_;apply zb [] hB h
 refine z.l7.f3.c.I.g ?_;refine k_npcell (b:=1006) (j:=0) 1006 0 ?_;refine zH (Sum.elim (fun (y4:Unit)=>⟨[(0,S s),(1,.fn (.func fk_plain) [] fc_plain),(6,.ptr 1006 0)],[(1006,.box 102 [.nptr true 1006 0,.pl (.slice none 0 0)])],[]⟩) (fun (y4:Str×Str)=>⟨[(0,S y4.1),(1,.fn (.func fk_plain) [] fc_plain),(6,.ptr 1006 0)],[(1006,.box 102 [.nptr false 1006 0,.sl 13061 0 y4.2.length]),(13061,.row 5 1 0 (F cU y4.2))],[13061]⟩)) (fun q19=>(.ret,⟨[(4,S q19.1),(5,B q19.2)],[],[13061]⟩)) [(1006,1006)] hB h (fun y4 t h=> ?_) (fun q19 h=> ?_)
 ·unfold qI at h
  rcases y4 with y4|y4
  ·dsimp only [Sum.elim] at h ⊢
   refine z.b.c9.g ?_;refine zm h (fun _=>Zl) (fun v5 _ h=> ?_);refine z.p.A.k6.k8.g ?_;refine l_callF hc_plain h (fun _=>hf_plain) (fun v6 _ h=> ?_);refine l_nilcell (te:=5) (b1:=1006) (j:=1) 13061 1 ?_;refine zi [(4000101,1006),(4000102,13061)] [1006,13061] h (fun _=>zj) (fun v7 _ h=> ?_);refine z.d3.T.e.g ?_;refine zn h (fun _ h=> ?_) (fun _ h=> ?_)
   ·refine z.c.g ?_;refine zi [(6000101,1006),(6000102,13061)] [1006,13061] h (fun _=>zP) (fun v8 _ h=> ?_);refine z.B.e5.g ?_;exact zr [] hB h
   refine z.y.g ?_;refine zm h (fun _=>Zl) (fun v9 _ h=> ?_);refine z.x.A.k6.k8.g ?_;refine zm h (fun _=>zak) (fun v10 _ h=> ?_);refine z.h0.G.M.g ?_;refine zc h (fun _ h=> ?_) (fun _ h=> ?_)
   ·refine z.B.Q.i5.n.g ?_;exact zr [] hB h
   refine z.d7.j9.f.g ?_;refine zn h (fun _ h=> ?_) (fun _ h=> ?_)
   ·refine z.B.Q.g ?_;exact zr [] hB h
   refine z.y.g ?_;refine zi [(4000101,1006),(4000102,13061)] [1006,13061] h (fun _=>zj) (fun v11 _ h=> ?_);refine z.i6.h.e.g ?_;exact zu [(1006,1006),(13061,13061)] hB h
  dsimp only [Sum.elim] at h ⊢
  refine z.b.c9.g ?_;refine zm h (fun _=>Zl) (fun v12 _ h=> ?_);refine z.p.A.k6.k8.g ?_;refine l_callF hc_plain h (fun _=>hf_plain) (fun v13 _ h=> ?_);refine zi [(4000101,1006),(4000102,13061)] [1006,13061] h (fun _=>zj) (fun v14 _ h=> ?_);refine z.d3.T.e.g ?_;refine zn h (fun _ h=> ?_) (fun _ h=> ?_)
  ·refine z.c.g ?_;refine zi [(6000101,1006),(6000102,13061)] [1006,13061] h (fun _=>zP) (fun v15 _ h=> ?_);refine z.B.e5.g ?_;exact zr [] hB h
  refine z.y.g ?_;refine zm h (fun _=>Zl) (fun v16 _ h=> ?_);refine z.x.A.k6.k8.g ?_;refine zm h (fun _=>zak) (fun v17 _ h=> ?_);refine z.h0.G.M.g ?_;refine zc h (fun _ h=> ?_) (fun _ h=> ?_)
  ·refine z.B.Q.i5.n.g ?_;exact zr [] hB h
  refine z.d7.j9.f.g ?_;refine zn h (fun _ h=> ?_) (fun _ h=> ?_)
  ·refine z.B.Q.g ?_;exact zr [] hB h
  refine z.y.g ?_;refine zi [(4000101,1006),(4000102,13061)] [1006,13061] h (fun _=>zj) (fun v18 _ h=> ?_);refine z.i6.h.e.g ?_;exact zu [(1006,1006),(13061,13061)] hB h
 refine f_br ?_;apply zb [] hB h
theorem strings_NewReplacer_s1_ok {u1:(List Str)}{r:(List Str)}(h:ZG u1=some r):XSpec Tryz.prog 247 [.sl 7000101 0 u1.length] [(7000101,.row 9 1 0 (F cS u1))] (.ptr 7000151 0) [(7000101,.row 9 1 0 (F cS u1)),(7000151,.box 260 [.pl (.int .u32 0),.pl (.int .i32 0),.pl (.int .u32 0),.pl .nilIface,.sl 7000152 0 r.length]),(7000152,.row 9 1 0 (F cS r))] []:=by
 unfold ZG at h;refine zd Tryz.hU Tryz.func247 (fun _ _ _ hB=> ?_);refine z.u.s6.N.e9.g ?_;refine zn h (fun _ h=> ?_) (fun _ h=> ?_)
 ·refine k_reg ?_
  cases h
 refine z.y.g ?_;refine l_appc h (fun v1 _ h=> ?_);refine z.l.l3.l0.g ?_;apply zb [(7000101,7000101),(1011,7000151),(1009,7000152)] hB h
theorem atomic_Bool_Load_s1_ok {u1:(List Str)}{r:Unit}(h:Q4 u1=some r):XSpec Tryz.prog 274 [.ptr 11000101 0] [(11000101,.box 260 [.pl (.int .u32 0),.pl (.int .i32 0),.pl (.int .u32 0),.pl .nilIface,.sl 11000102 0 u1.length]),(11000102,.row 9 1 0 (F cS u1))] (B false) [(11000101,.box 260 [.pl (.int .u32 0),.pl (.int .i32 0),.pl (.int .u32 0),.pl .nilIface,.sl 11000102 0 u1.length]),(11000102,.row 9 1 0 (F cS u1))] []:=by
 unfold Q4 at h;refine zd Tryz.hU Tryz.func274 (fun _ _ _ hB=> ?_);refine z.c4.a8.g ?_;refine l_aload Tryz.func279 ?_;refine z.l.b7.g ?_;apply zb [(11000101,11000101),(11000102,11000102)] hB h
theorem sync_Mutex_Lock_s1_ok {u1:(List Str)}{r:Unit}(h:Jx u1=some r):XSpec Tryz.prog 286 [.ptr 14000101 1] [(14000101,.box 260 [.pl (.int .u32 0),.pl (.int .i32 0),.pl (.int .u32 0),.pl .nilIface,.sl 14000102 0 u1.length]),(14000102,.row 9 1 0 (F cS u1))] (.tup []) [(14000101,.box 260 [.pl (.int .u32 0),.pl (.int .i32 1),.pl (.int .u32 0),.pl .nilIface,.sl 14000102 0 u1.length]),(14000102,.row 9 1 0 (F cS u1))] []:=by
 unfold Jx at h;refine zd Tryz.hU Tryz.func286 (fun _ _ _ hB=> ?_);refine z.c.g ?_;refine l_nat (race0_spec Tryz.func292) ?_;refine z.c4.T.e.g ?_;refine l_acas Tryz.func293 ?_;refine z.c.e0.H.e0.e.g ?_;refine l_nat (race0_spec Tryz.func294) ?_;refine z.o9.h.e.g ?_;refine l_nat (race1_spec Tryz.func295 14000101 1) ?_;refine z.n2.l5.e.g ?_;apply zb [(14000101,14000101),(14000102,14000102)] hB h
theorem sync_Mutex_Lock_2_s1_ok {u1:(List Str)}{r:Unit}(h:QR u1=some r):XSpec Tryz.prog 280 [.ptr 13000101 1] [(13000101,.box 260 [.pl (.int .u32 0),.pl (.int .i32 0),.pl (.int .u32 0),.pl .nilIface,.sl 13000102 0 u1.length]),(13000102,.row 9 1 0 (F cS u1))] (.tup []) [(13000101,.box 260 [.pl (.int .u32 0),.pl (.int .i32 1),.pl (.int .u32 0),.pl .nilIface,.sl 13000102 0 u1.length]),(13000102,.row 9 1 0 (F cS u1))] []:=by
 unfold QR at h;refine zd Tryz.hU Tryz.func280 (fun _ _ _ hB=> ?_);refine z.c4.h.g ?_;refine zi [(14000101,13000101),(14000102,13000102)] [13000101,13000102] h (fun _=>sync_Mutex_Lock_s1_ok) (fun v1 _ h=> ?_);refine k_nil ?_;apply zb [(13000101,13000101),(13000102,13000102)] hB h
theorem atomic_Bool_Load_s2_ok {u1:(List Str)}{r:Unit}(h:Q2 u1=some r):XSpec Tryz.prog 274 [.ptr 15000101 0] [(15000101,.box 260 [.pl (.int .u32 0),.pl (.int .i32 1),.pl (.int .u32 0),.pl .nilIface,.sl 15000102 0 u1.length]),(15000102,.row 9 1 0 (F cS u1))] (B false) [(15000101,.box 260 [.pl (.int .u32 0),.pl (.int .i32 1),.pl (.int .u32 0),.pl .nilIface,.sl 15000102 0 u1.length]),(15000102,.row 9 1 0 (F cS u1))] []:=by
 unfold Q2 at h;refine zd Tryz.hU Tryz.func274 (fun _ _ _ hB=> ?_);refine z.c4.a8.g ?_;refine l_aload Tryz.func279 ?_;refine z.l.b7.g ?_;apply zb [(15000101,15000101),(15000102,15000102)] hB h
theorem strings_Replacer_build_s1_ok {u1:(List Str)}{r:Str}(h:qZ u1=some r):XSpec Tryz.prog 276 [.ptr 17000101 0] [(17000101,.box 260 [.pl (.int .u32 0),.pl (.int .i32 1),.pl (.int .u32 0),.pl .nilIface,.sl 17000102 0 u1.length]),(17000102,.row 9 1 0 (F cS u1))] (.ifc 283 (.ptr 17000151 0)) [(17000101,.box 260 [.pl (.int .u32 0),.pl (.int .i32 1),.pl (.int .u32 0),.pl .nilIface,.sl 17000102 0 u1.length]),(17000102,.row 9 1 0 (F cS u1)),(17000151,.row 282 1 0 (F cU r))] []:=by
 unfold qZ at h;refine zd Tryz.hU Tryz.func276 (fun _ _ _ hB=> ?_);refine z.f2.a9.a8.g ?_;refine qW (fun q2=>(.normal,⟨[(3,.sl 17000102 0 u1.length),(28,B q2)],[(17000101,.box 260 [.pl (.int .u32 0),.pl (.int .i32 1),.pl (.int .u32 0),.pl .nilIface,.sl 17000102 0 u1.length]),(17000102,.row 9 1 0 (F cS u1))],[]⟩)) h (fun t h=> ?_) (fun q2 h=> ?_)
 ·refine z.w.N.h.g ?_;refine zc h (fun _ h=> ?_) (fun _ h=> ?_)
  ·refine z.f.g ?_;refine Jg h (fun v1 ev1 h=> ?_);refine l_on ?_;refine Jc ev1 ?_;refine z.O.c6.V.b5.g ?_;exact zp [(17000101,17000101),(17000102,17000102)] hB h
  refine z.b6.c5.m.g ?_;exact zp [(17000101,17000101),(17000102,17000102)] hB h
 refine f_t ?_;refine zn h (fun _ h=> ?_) (fun _ h=> ?_)
 ·refine k_seq ?_;refine ZH [] (.q 0 (.q 1 (.q 2 (.q 3 (.q 4 (.q 5 (.e 6 (.q 7 (.q 8 .done))))))))) hm ?_;refine z.K.g ?_
  cases h
 refine z.j4.c.k3.I.g ?_;refine zH (fun y5=>⟨[(3,.sl 17000102 0 u1.length),(4,B y5.1),(5,I y5.2)],[(17000101,.box 260 [.pl (.int .u32 0),.pl (.int .i32 1),.pl (.int .u32 0),.pl .nilIface,.sl 17000102 0 u1.length]),(17000102,.row 9 1 0 (F cS u1))],[]⟩) (fun q8=>(.exit 0,⟨[(3,.sl 17000102 0 u1.length),(4,B q8)],[(17000101,.box 260 [.pl (.int .u32 0),.pl (.int .i32 1),.pl (.int .u32 0),.pl .nilIface,.sl 17000102 0 u1.length]),(17000102,.row 9 1 0 (F cS u1))],[]⟩)) [(17000101,17000101),(17000102,17000102)] hB h (fun y5 t h=> ?_) (fun q8 h=> ?_)
 ·unfold Qb at h;refine z.u.N.m2.g ?_;refine zn h (fun _ h=> ?_) (fun _ h=> ?_)
  ·refine z.m2.a4.g ?_;refine Jg h (fun v6 ev6 h=> ?_);refine Jc ev6 ?_;refine z.u.V.g ?_;refine zn h (fun _ h=> ?_) (fun _ h=> ?_)
   ·refine z.b.g ?_
    cases h
   refine z.d6.f0.g ?_;refine Jg h (fun v7 ev7 h=> ?_);refine Jc ev7 ?_;refine z.u.V.g ?_;refine zn h (fun _ h=> ?_) (fun _ h=> ?_)
   ·refine z.c2.e4.E.o0.g ?_;exact zu [(17000101,17000101),(17000102,17000102)] hB h
   refine z.c2.e4.Y.g ?_;exact zu [(17000101,17000101),(17000102,17000102)] hB h
  refine z.k.g ?_;exact zr [(17000101,17000101),(17000102,17000102)] hB h
 refine z.e.T.P.g ?_;refine zn h (fun _ h=> ?_) (fun _ h=> ?_)
 ·refine z.c.g ?_;refine l_anew 256 ?_;refine z.l7.T.e.g ?_;refine zH (fun y9=>⟨[(3,.sl 17000102 0 u1.length),(6,.ptr 1006 0),(61,I y9.1)],[(17000101,.box 260 [.pl (.int .u32 0),.pl (.int .i32 1),.pl (.int .u32 0),.pl .nilIface,.sl 17000102 0 u1.length]),(17000102,.row 9 1 0 (F cS u1)),(1006,.row 282 1 0 (F cU y9.2))],[]⟩) (fun q12=>(.exit 2,⟨[(3,.sl 17000102 0 u1.length),(6,.ptr 1006 0)],[(17000101,.box 260 [.pl (.int .u32 0),.pl (.int .i32 1),.pl (.int .u32 0),.pl .nilIface,.sl 17000102 0 u1.length]),(17000102,.row 9 1 0 (F cS u1)),(1006,.row 282 1 0 (F cU q12))],[]⟩)) [(17000101,17000101),(17000102,17000102),(1006,1006)] hB h (fun y9 t h=> ?_) (fun q12 h=> ?_)
  ·unfold Qc at h;refine z.b8.g ?_;refine zn h (fun _ h=> ?_) (fun _ h=> ?_)
   ·refine z.q0.C.j.k7.g ?_;refine l_aidx h (fun v10 ev10 h=> ?_);refine l_put0 ev10 h (fun v11 ev11 h=> ?_);refine z.e1.d4.g ?_;exact zu [(17000101,17000101),(17000102,17000102),(1006,1006)] hB h
   refine z.k.g ?_;exact zr [(17000101,17000101),(17000102,17000102),(1006,1006)] hB h
  refine z.j4.S.N.T.P.g ?_;refine zH (fun y13=>⟨[(3,.sl 17000102 0 u1.length),(6,.ptr 1006 0),(8,I y13.1)],[(17000101,.box 260 [.pl (.int .u32 0),.pl (.int .i32 1),.pl (.int .u32 0),.pl .nilIface,.sl 17000102 0 u1.length]),(17000102,.row 9 1 0 (F cS u1)),(1006,.row 282 1 0 (F cU y13.2))],[]⟩) (fun q20=>(.exit 4,⟨[(6,.ptr 1006 0)],[(17000101,.box 260 [.pl (.int .u32 0),.pl (.int .i32 1),.pl (.int .u32 0),.pl .nilIface,.sl 17000102 0 u1.length]),(17000102,.row 9 1 0 (F cS u1)),(1006,.row 282 1 0 (F cU q20))],[]⟩)) [(17000101,17000101),(17000102,17000102),(1006,1006)] hB h (fun y13 t h=> ?_) (fun q20 h=> ?_)
  ·unfold Qe at h;refine z.u.T.g ?_;refine zn h (fun _ h=> ?_) (fun _ h=> ?_)
   ·refine z.i.a4.g ?_;refine Jg h (fun v14 ev14 h=> ?_);refine Jc ev14 ?_;refine Qz h (fun v15 _ h=> ?_);refine z.d6.p.g ?_;refine Jg h (fun v16 ev16 h=> ?_);refine Jc ev16 ?_;refine Qz h (fun v17 _ h=> ?_);refine z.C.j.g ?_;refine l_aidx h (fun v18 ev18 h=> ?_);refine l_put0 ev18 h (fun v19 ev19 h=> ?_);refine z.E.S.e4.d4.g ?_;exact zu [(17000101,17000101),(17000102,17000102),(1006,1006)] hB h
   refine z.k.g ?_;exact zr [(17000101,17000101),(17000102,17000102),(1006,1006)] hB h
  refine z.l9.s7.c.P.g ?_;apply zb [(17000101,17000101),(17000102,17000102),(1006,17000151)] hB h
 refine z.s8.N.y.g ?_
 cases h
theorem strings_Replacer_buildOnce_s1_ok {u1:(List Str)}{r:Str}(h:Ze u1=some r):XSpec Tryz.prog 265 [.ptr 16000101 0] [(16000101,.box 260 [.pl (.int .u32 0),.pl (.int .i32 1),.pl (.int .u32 0),.pl .nilIface,.sl 16000102 0 u1.length]),(16000102,.row 9 1 0 (F cS u1))] (.tup []) [(16000101,.box 260 [.pl (.int .u32 0),.pl (.int .i32 1),.pl (.int .u32 0),.ifc 283 (.ptr 16000151 0),.pl (.slice none 0 0)]),(16000102,.row 9 1 0 (F cS u1)),(16000151,.row 282 1 0 (F cU r))] []:=by
 unfold Ze at h;refine zd Tryz.hU Tryz.func265 (fun _ _ _ hB=> ?_);refine z.i.g ?_;refine zi [(17000101,16000101),(17000102,16000102),(17000151,100451)] [16000101,16000102] h (fun _=>strings_Replacer_build_s1_ok) (fun v1 _ h=> ?_);refine z.d4.m5.c4.h.k5.g ?_;apply zb [(16000101,16000101),(16000102,16000102),(100451,16000151)] hB h
theorem atomic_Bool_Store_s1_ok {u1:Str}{r:Unit}(h:JR u1=some r):DSpec Tryz.prog 282 [.ptr 12000101 0,B true] [(12000101,.box 260 [.pl (.int .u32 0),.pl (.int .i32 1),.pl (.int .u32 0),.ifc 283 (.ptr 102051 0),.pl (.slice none 0 0)]),(102051,.row 282 1 0 (F cU u1))] (.tup []) [(12000101,.box 260 [.pl (.int .u32 1),.pl (.int .i32 1),.pl (.int .u32 0),.ifc 283 (.ptr 102051 0),.pl (.slice none 0 0)]),(102051,.row 282 1 0 (F cU u1))] []:=by
 unfold JR at h;refine D_of_run Tryz.hU Tryz.func282 (fun _ _ _ hB=> ?_);refine ZH [5] (.q 0 (.q 1 (.q 2 (.q 3 (.e 4 (.e 5 .done)))))) hm ?_;refine z.D.e2.k0.r3.g ?_;refine n_callK (atomic_b32_ok (show atomic_b32 true=some 1 from rfl)) ?_;refine ge ?_;refine n_astore Tryz.func288 ?_;refine m_nil ?_;apply zb [(12000101,12000101),(102051,102051)] hB h
theorem sync_Mutex_Unlock_s1_ok {u1:Str}{r:Unit}(h:JV u1=some r):XSpec Tryz.prog 287 [.ptr 20000101 1] [(20000101,.box 260 [.pl (.int .u32 1),.pl (.int .i32 1),.pl (.int .u32 0),.ifc 283 (.ptr 20000102 0),.pl (.slice none 0 0)]),(20000102,.row 282 1 0 (F cU u1))] (.tup []) [(20000101,.box 260 [.pl (.int .u32 1),.pl (.int .i32 0),.pl (.int .u32 0),.ifc 283 (.ptr 20000102 0),.pl (.slice none 0 0)]),(20000102,.row 282 1 0 (F cU u1))] []:=by
 unfold JV at h;refine zd Tryz.hU Tryz.func287 (fun _ _ _ hB=> ?_);refine z.o9.c8.a9.b.e0.H.g ?_;refine l_nat (race1_spec Tryz.func297 20000101 1) ?_;refine z.o0.e.g ?_;refine l_nat (race0_spec Tryz.func292) ?_;refine z.c4.c8.g ?_;refine l_aadd Tryz.func298 ?_;refine z.o0.I.i0.u.G.g ?_;refine l_nat (race0_spec Tryz.func294) ?_;refine k_nil ?_;apply zb [(20000101,20000101),(20000102,20000102)] hB h
theorem sync_Mutex_Unlock_2_s1_ok {u1:Str}{r:Unit}(h:Jy u1=some r):DSpec Tryz.prog 281 [.ptr 12000101 1] [(12000101,.box 260 [.pl (.int .u32 1),.pl (.int .i32 1),.pl (.int .u32 0),.ifc 283 (.ptr 102051 0),.pl (.slice none 0 0)]),(102051,.row 282 1 0 (F cU u1))] (.tup []) [(12000101,.box 260 [.pl (.int .u32 1),.pl (.int .i32 0),.pl (.int .u32 0),.ifc 283 (.ptr 102051 0),.pl (.slice none 0 0)]),(102051,.row 282 1 0 (F cU u1))] []:=by
 unfold Jy at h;refine D_of_run Tryz.hU Tryz.func281 (fun _ _ _ hB=> ?_);refine z.c4.h.g ?_;refine zi [(20000101,12000101),(20000102,102051)] [12000101,102051] h (fun _=>sync_Mutex_Unlock_s1_ok) (fun v1 _ h=> ?_);refine k_nil ?_;apply zb [(12000101,12000101),(102051,102051)] hB h
theorem sync_Once_doSlow_s1_ok {u1:(List Str)}{r:Str}(h:Q5 u1=some r):XSpec Tryz.prog 275 [.ptr 12000101 0,.fn (.func 265) [.ptr 12000101 0] []] [(12000101,.box 260 [.pl (.int .u32 0),.pl (.int .i32 0),.pl (.int .u32 0),.pl .nilIface,.sl 12000102 0 u1.length]),(12000102,.row 9 1 0 (F cS u1))] (.tup []) [(12000101,.box 260 [.pl (.int .u32 1),.pl (.int .i32 0),.pl (.int .u32 0),.ifc 283 (.ptr 12000151 0),.pl (.slice none 0 0)]),(12000102,.row 9 1 0 (F cS u1)),(12000151,.row 282 1 0 (F cU r))] []:=by
 unfold Q5 at h;refine X_of_runD Tryz.hU Tryz.func275 (fun _ _ _ hB hA=> ?_);refine z.c4.b.g ?_;refine zi [(13000101,12000101),(13000102,12000102)] [12000101,12000102] h (fun _=>sync_Mutex_Lock_2_s1_ok) (fun v1 _ h=> ?_);refine z.c4.c8.g ?_;refine l_defer hA rfl rfl rfl rfl rfl (fun p1 hp1 hn1=> ?_);refine z.c4.c8.g ?_;refine zi [(15000101,12000101),(15000102,12000102)] [12000101,12000102] h (fun _=>atomic_Bool_Load_s2_ok) (fun v2 _ h=> ?_);refine z.c4.b.e0.d3.g ?_;refine l_defer hA rfl rfl rfl rfl rfl (fun p2 hp2 hn2=> ?_);refine z.h.e.g ?_;refine zi [(16000101,12000101),(16000102,12000102),(16000151,102051)] [12000101,12000102] h (fun _=>strings_Replacer_buildOnce_s1_ok) (fun v3 _ h=> ?_);refine z.s9.d4.g ?_;obtain ⟨v4,hv4,h⟩:=bind_some h;refine leavesD_cons (ks:=[.bool true]) [12000101,102051] hp2 hn2 (atomic_Bool_Store_s1_ok hv4) ?_;obtain ⟨v5,hv5,h⟩:=bind_some h;refine leavesD_cons (ks:=[]) [12000101,102051] hp1 hn1 (sync_Mutex_Unlock_2_s1_ok hv5) ?_
 cases h
 exact leavesD_nil [(12000101,12000101),(12000102,12000102),(102051,12000151)] hB
theorem sync_Once_Do_s1_ok {u1:(List Str)}{r:Str}(h:JD u1=some r):XSpec Tryz.prog 264 [.ptr 10000101 0,.fn (.func 265) [.ptr 10000101 0] []] [(10000101,.box 260 [.pl (.int .u32 0),.pl (.int .i32 0),.pl (.int .u32 0),.pl .nilIface,.sl 10000102 0 u1.length]),(10000102,.row 9 1 0 (F cS u1))] (.tup []) [(10000101,.box 260 [.pl (.int .u32 1),.pl (.int .i32 0),.pl (.int .u32 0),.ifc 283 (.ptr 10000151 0),.pl (.slice none 0 0)]),(10000102,.row 9 1 0 (F cS u1)),(10000151,.row 282 1 0 (F cU r))] []:=by
 unfold JD at h;refine zd Tryz.hU Tryz.func264 (fun _ _ _ hB=> ?_);refine z.c4.b.g ?_;refine zi [(11000101,10000101),(11000102,10000102)] [10000101,10000102] h (fun _=>atomic_Bool_Load_s1_ok) (fun v1 _ h=> ?_);refine z.C.e0.d3.g ?_;refine zi [(12000101,10000101),(12000102,10000102),(12000151,101151)] [10000101,10000102] h (fun _=>sync_Once_doSlow_s1_ok) (fun v2 _ h=> ?_);refine k_nil ?_;apply zb [(10000101,10000101),(10000102,10000102),(101151,10000151)] hB h
theorem Qy {u1:Str}{u2:Str}{r:Str}(h:qj u1 u2=some r):XSpec Tryz.prog 331 [.ptr 21000101 0,S u1] [(21000101,.row 282 1 0 (F cU u2))] (S r) [(21000101,.row 282 1 0 (F cU u2))] []:=by
 unfold qj at h;refine zd Tryz.hU Tryz.func331 (fun _ _ _ hB=> ?_);refine z.j4.c.k3.j.c.g ?_;refine zH (Sum.elim (fun (y1:Int)=>⟨[(0,.ptr 21000101 0),(1,S u1),(5,.pl (.slice none 0 0)),(6,I y1)],[(21000101,.row 282 1 0 (F cU u2))],[]⟩) (fun (y1:Int×Str)=>⟨[(0,.ptr 21000101 0),(1,S u1),(5,.sl 1027 0 y1.2.length),(6,I y1.1)],[(21000101,.row 282 1 0 (F cU u2)),(1027,.row 5 1 0 (F cU y1.2))],[]⟩)) (Sum.elim (fun q13=>(.exit 0,⟨[(1,S u1),(5,.pl (.slice none 0 0))],[(21000101,.row 282 1 0 (F cU u2))],[]⟩)) (fun q14=>(.exit 0,⟨[(1,S u1),(5,.sl 1027 0 q14.length)],[(21000101,.row 282 1 0 (F cU u2)),(1027,.row 5 1 0 (F cU q14))],[]⟩))) [(21000101,21000101)] hB h (fun y1 t h=> ?_) (fun q h=> ?_)
 ·unfold zo at h
  rcases y1 with y1|y1
  ·dsimp only [Sum.elim] at h ⊢
   refine z.u.V.m2.g ?_;refine zn h (fun _ h=> ?_) (fun _ h=> ?_)
   ·refine z.i.a4.g ?_;refine Qz h (fun v2 _ h=> ?_);refine z.n3.p.g ?_;refine l_aidx h (fun v3 ev3 h=> ?_);refine Jc ev3 ?_;refine z.u.a.g ?_;refine zn h (fun _ h=> ?_) (fun _ h=> ?_)
    ·refine z.n3.j1.j.o3.h.e0.e.r4.T.g ?_;refine l_aidx h (fun v4 ev4 h=> ?_);refine Jc ev4 ?_;refine Jg h (fun v5 ev5 h=> ?_);refine l_put0 ev5 h (fun v6 ev6 h=> ?_);refine z.c2.e4.d4.g ?_;refine qQ 5 v6.length ?_;exact zu [(21000101,21000101),(1027,1027)] hB h
    refine z.c2.e4.Y.g ?_;exact zu [(21000101,21000101)] hB h
   refine z.k.g ?_;exact zr [(21000101,21000101)] hB h
  dsimp only [Sum.elim] at h ⊢
  refine z.u.V.m2.g ?_;refine zn h (fun _ h=> ?_) (fun _ h=> ?_)
  ·refine z.i.a4.g ?_;refine Qz h (fun v7 _ h=> ?_);refine z.n3.p.g ?_;refine l_aidx h (fun v8 ev8 h=> ?_);refine Jc ev8 ?_;refine z.u.a.g ?_;refine zn h (fun _ h=> ?_) (fun _ h=> ?_)
   ·refine z.T.g ?_;refine l_nenil h (fun v9 _ h=> ?_);refine z.n3.j1.I.i0.e.g ?_;refine l_aidx h (fun v10 ev10 h=> ?_);refine Jc ev10 ?_;refine Jg h (fun v11 ev11 h=> ?_);refine l_put0 ev11 h (fun v12 ev12 h=> ?_);refine z.c2.e4.d4.g ?_;refine qQ 5 v12.length ?_;exact zu [(21000101,21000101),(1027,1027)] hB h
   refine z.c2.e4.Y.g ?_;exact zu [(21000101,21000101),(1027,1027)] hB h
  refine z.k.g ?_;exact zr [(21000101,21000101),(1027,1027)] hB h
 rcases q with q13|q14
 ·dsimp only [Sum.elim] at h ⊢
  refine z.l9.b.e0.e.r4.T.P.g ?_;apply zb [(21000101,21000101)] hB h
 dsimp only [Sum.elim] at h ⊢
 refine z.T.P.g ?_;refine l_nenil h (fun v15 _ h=> ?_);refine z.l.p7.y.i0.e.g ?_;apply zb [(21000101,21000101)] hB h
theorem strings_Replacer_Replace_s1_ok {u1:Str}{u2:(List Str)}{r:Str×Str}(h:qN u1 u2=some r):XSpec Tryz.prog 248 [.ptr 9000101 0,S u1] [(9000101,.box 260 [.pl (.int .u32 0),.pl (.int .i32 0),.pl (.int .u32 0),.pl .nilIface,.sl 9000102 0 u2.length]),(9000102,.row 9 1 0 (F cS u2))] (S r.1) [(9000101,.box 260 [.pl (.int .u32 1),.pl (.int .i32 0),.pl (.int .u32 0),.ifc 283 (.ptr 9000151 0),.pl (.slice none 0 0)]),(9000102,.row 9 1 0 (F cS u2)),(9000151,.row 282 1 0 (F cU r.2))] []:=by
 unfold qN at h;refine zd Tryz.hU Tryz.func248 (fun _ _ _ hB=> ?_);refine z.q1.a.c4.a8.g ?_;refine zi [(10000101,9000101),(10000102,9000102),(10000151,101051)] [9000101,9000102] h (fun _=>sync_Once_Do_s1_ok) (fun v1 _ h=> ?_);refine z.i3.c8.g ?_;refine l_callXI [(21000101,101051)] [101051] h (fun _=>Qy) (fun v2 _ h=> ?_);refine z.l.g ?_;apply zb [(9000101,9000101),(9000102,9000102),(101051,9000151)] hB h
theorem atomic_Bool_Load_s3_ok {u1:Str}{r:Unit}(h:Q3 u1=some r):XSpec Tryz.prog 274 [.ptr 24000101 0] [(24000101,.box 260 [.pl (.int .u32 1),.pl (.int .i32 0),.pl (.int .u32 0),.ifc 283 (.ptr 24000102 0),.pl (.slice none 0 0)]),(24000102,.row 282 1 0 (F cU u1))] (B true) [(24000101,.box 260 [.pl (.int .u32 1),.pl (.int .i32 0),.pl (.int .u32 0),.ifc 283 (.ptr 24000102 0),.pl (.slice none 0 0)]),(24000102,.row 282 1 0 (F cU u1))] []:=by
 unfold Q3 at h;refine zd Tryz.hU Tryz.func274 (fun _ _ _ hB=> ?_);refine z.c4.a8.g ?_;refine l_aload Tryz.func279 ?_;refine z.l.b7.g ?_;apply zb [(24000101,24000101),(24000102,24000102)] hB h
theorem sync_Once_Do_s2_ok {u1:Str}{r:Unit}(h:zaj u1=some r):XSpec Tryz.prog 264 [.ptr 23000101 0,.fn (.func 265) [.ptr 23000101 0] []] [(23000101,.box 260 [.pl (.int .u32 1),.pl (.int .i32 0),.pl (.int .u32 0),.ifc 283 (.ptr 23000102 0),.pl (.slice none 0 0)]),(23000102,.row 282 1 0 (F cU u1))] (.tup []) [(23000101,.box 260 [.pl (.int .u32 1),.pl (.int .i32 0),.pl (.int .u32 0),.ifc 283 (.ptr 23000102 0),.pl (.slice none 0 0)]),(23000102,.row 282 1 0 (F cU u1))] []:=by
 unfold zaj at h;refine zd Tryz.hU Tryz.func264 (fun _ _ _ hB=> ?_);refine z.c4.b.g ?_;refine zi [(24000101,23000101),(24000102,23000102)] [23000101,23000102] h (fun _=>atomic_Bool_Load_s3_ok) (fun v1 _ h=> ?_);refine z.Y.i0.d3.g ?_;apply zb [(23000101,23000101),(23000102,23000102)] hB h
theorem strings_Replacer_Replace_s2_ok {u1:Str}{u2:Str}{r:Str}(h:qy u1 u2=some r):XSpec Tryz.prog 248 [.ptr 22000101 0,S u1] [(22000101,.box 260 [.pl (.int .u32 1),.pl (.int .i32 0),.pl (.int .u32 0),.ifc 283 (.ptr 22000102 0),.pl (.slice none 0 0)]),(22000102,.row 282 1 0 (F cU u2))] (S r) [(22000101,.box 260 [.pl (.int .u32 1),.pl (.int .i32 0),.pl (.int .u32 0),.ifc 283 (.ptr 22000102 0),.pl (.slice none 0 0)]),(22000102,.row 282 1 0 (F cU u2))] []:=by
 unfold qy at h;refine zd Tryz.hU Tryz.func248 (fun _ _ _ hB=> ?_);refine z.q1.a.c4.a8.g ?_;refine zi [(23000101,22000101),(23000102,22000102)] [22000101,22000102] h (fun _=>sync_Once_Do_s2_ok) (fun v1 _ h=> ?_);refine z.i3.c8.g ?_;refine l_callXI [(21000101,22000102)] [22000102] h (fun _=>Qy) (fun v2 _ h=> ?_);refine z.l.g ?_;apply zb [(22000101,22000101),(22000102,22000102)] hB h
theorem chars_expand_s1_ok {u1:Str}{u2:(List Str)}{r:Str×Bool}(h:zal u1 u2=some r):XSpec Tryz.prog 218 [S u1,.fn (.func 248) [.ptr 8000101 0] []] [(8000101,.box 260 [.pl (.int .u32 0),.pl (.int .i32 0),.pl (.int .u32 0),.pl .nilIface,.sl 8000102 0 u2.length]),(8000102,.row 9 1 0 (F cS u2))] (.tup [S r.1,B r.2]) [(8000102,.row 9 1 0 (F cS u2))] [8000101]:=by
 unfold zal at h;refine zd Tryz.hU Tryz.func218 (fun _ _ _ hB=> ?_);refine z.f2.t.g ?_;refine qW (fun q3=>(.normal,⟨[(0,S u1),(1,.fn (.func 248) [.ptr 8000101 0] []),(22,B q3)],[(8000101,.box 260 [.pl (.int .u32 0),.pl (.int .i32 0),.pl (.int .u32 0),.pl .nilIface,.sl 8000102 0 u2.length]),(8000102,.row 9 1 0 (F cS u2))],[]⟩)) h (fun t h=> ?_) (fun q3 h=> ?_)
 ·refine z.o3.h.g ?_;refine l_callB h (fun _=>utf_Text_ok) (fun v1 _ h=> ?_);refine z.h0.g ?_;refine zc h (fun _ h=> ?_) (fun _ h=> ?_)
  ·refine z.O.n.g ?_;exact zp [(8000101,8000101),(8000102,8000102)] hB h
  refine z.f.g ?_;refine zm h (fun _=>ZK) (fun v2 _ h=> ?_);refine l_to [(8000101,8000101),(8000102,8000102)] ⟨[(0,S u1),(1,.fn (.func 248) [.ptr 8000101 0] []),(19,B false),(21,B v2)],[(8000101,.box 260 [.pl (.int .u32 0),.pl (.int .i32 0),.pl (.int .u32 0),.pl .nilIface,.sl 8000102 0 u2.length]),(8000102,.row 9 1 0 (F cS u2))],[]⟩ hB ?_;refine z.b6.g ?_;exact zp [(8000101,8000101),(8000102,8000102)] hB h
 refine f_t ?_;refine zn h (fun _ h=> ?_) (fun _ h=> ?_)
 ·refine z.Q.g ?_;apply zb [(8000102,8000102)] hB h
 refine z.l7.f3.c.I.g ?_;refine k_npcell (b:=1006) (j:=0) 1006 0 ?_;refine zH (Sum.elim (fun (y4:Unit)=>⟨[(0,S u1),(1,.fn (.func 248) [.ptr 8000101 0] []),(6,.ptr 1006 0)],[(8000101,.box 260 [.pl (.int .u32 0),.pl (.int .i32 0),.pl (.int .u32 0),.pl .nilIface,.sl 8000102 0 u2.length]),(8000102,.row 9 1 0 (F cS u2)),(1006,.box 102 [.nptr true 1006 0,.pl (.slice none 0 0)])],[]⟩) (fun (y4:Str×Str×Str)=>⟨[(0,S y4.1),(1,.fn (.func 248) [.ptr 8000101 0] []),(6,.ptr 1006 0)],[(8000101,.box 260 [.pl (.int .u32 1),.pl (.int .i32 0),.pl (.int .u32 0),.ifc 283 (.ptr 103151 0),.pl (.slice none 0 0)]),(8000102,.row 9 1 0 (F cS u2)),(1006,.box 102 [.nptr false 1006 0,.sl 13061 0 y4.2.2.length]),(103151,.row 282 1 0 (F cU y4.2.1)),(13061,.row 5 1 0 (F cU y4.2.2))],[13061]⟩)) (fun q19=>(.ret,⟨[(4,S q19.1),(5,B q19.2.1)],[(8000101,.box 260 [.pl (.int .u32 1),.pl (.int .i32 0),.pl (.int .u32 0),.ifc 283 (.ptr 103151 0),.pl (.slice none 0 0)]),(8000102,.row 9 1 0 (F cS u2)),(103151,.row 282 1 0 (F cU q19.2.2))],[13061]⟩)) [(8000101,8000101),(8000102,8000102),(1006,1006)] hB h (fun y4 t h=> ?_) (fun q19 h=> ?_)
 ·unfold qp at h
  rcases y4 with y4|y4
  ·dsimp only [Sum.elim] at h ⊢
   refine z.b.c9.g ?_;refine zm h (fun _=>Zl) (fun v5 _ h=> ?_);refine z.p.A.k6.k8.g ?_;refine zi [(9000101,8000101),(9000102,8000102),(9000151,103151)] [8000101,8000102] h (fun _=>strings_Replacer_Replace_s1_ok) (fun v6 _ h=> ?_);refine l_nilcell (te:=5) (b1:=1006) (j:=1) 13061 1 ?_;refine zi [(4000101,1006),(4000102,13061)] [1006,13061] h (fun _=>zj) (fun v7 _ h=> ?_);refine z.d3.T.e.g ?_;refine zn h (fun _ h=> ?_) (fun _ h=> ?_)
   ·refine z.c.g ?_;refine zi [(6000101,1006),(6000102,13061)] [1006,13061] h (fun _=>zP) (fun v8 _ h=> ?_);refine z.B.e5.g ?_;exact zr [(8000101,8000101),(8000102,8000102),(103151,103151)] hB h
   refine z.y.g ?_;refine zm h (fun _=>Zl) (fun v9 _ h=> ?_);refine z.x.A.k6.k8.g ?_;refine zm h (fun _=>zak) (fun v10 _ h=> ?_);refine z.h0.G.M.g ?_;refine zc h (fun _ h=> ?_) (fun _ h=> ?_)
   ·refine z.B.Q.i5.n.g ?_;exact zr [(8000101,8000101),(8000102,8000102),(103151,103151)] hB h
   refine z.d7.j9.f.g ?_;refine zn h (fun _ h=> ?_) (fun _ h=> ?_)
   ·refine z.B.Q.g ?_;exact zr [(8000101,8000101),(8000102,8000102),(103151,103151)] hB h
   refine z.y.g ?_;refine zi [(4000101,1006),(4000102,13061)] [1006,13061] h (fun _=>zj) (fun v11 _ h=> ?_);refine z.i6.h.e.g ?_;exact zu [(8000101,8000101),(8000102,8000102),(1006,1006),(103151,103151),(13061,13061)] hB h
  dsimp only [Sum.elim] at h ⊢
  refine z.b.c9.g ?_;refine zm h (fun _=>Zl) (fun v12 _ h=> ?_);refine z.p.A.k6.k8.g ?_;refine zi [(22000101,8000101),(22000102,103151)] [8000101,103151] h (fun _=>strings_Replacer_Replace_s2_ok) (fun v13 _ h=> ?_);refine zi [(4000101,1006),(4000102,13061)] [1006,13061] h (fun _=>zj) (fun v14 _ h=> ?_);refine z.d3.T.e.g ?_;refine zn h (fun _ h=> ?_) (fun _ h=> ?_)
  ·refine z.c.g ?_;refine zi [(6000101,1006),(6000102,13061)] [1006,13061] h (fun _=>zP) (fun v15 _ h=> ?_);refine z.B.e5.g ?_;exact zr [(8000101,8000101),(8000102,8000102),(103151,103151)] hB h
  refine z.y.g ?_;refine zm h (fun _=>Zl) (fun v16 _ h=> ?_);refine z.x.A.k6.k8.g ?_;refine zm h (fun _=>zak) (fun v17 _ h=> ?_);refine z.h0.G.M.g ?_;refine zc h (fun _ h=> ?_) (fun _ h=> ?_)
  ·refine z.B.Q.i5.n.g ?_;exact zr [(8000101,8000101),(8000102,8000102),(103151,103151)] hB h
  refine z.d7.j9.f.g ?_;refine zn h (fun _ h=> ?_) (fun _ h=> ?_)
  ·refine z.B.Q.g ?_;exact zr [(8000101,8000101),(8000102,8000102),(103151,103151)] hB h
  refine z.y.g ?_;refine zi [(4000101,1006),(4000102,13061)] [1006,13061] h (fun _=>zj) (fun v18 _ h=> ?_);refine z.i6.h.e.g ?_;exact zu [(8000101,8000101),(8000102,8000102),(1006,1006),(103151,103151),(13061,13061)] hB h
 refine f_br ?_;refine f_nilcell (te:=9) (b1:=8000101) (j:=4) 80004014 1 ?_;apply zb [(8000102,8000102)] hB h
theorem chars_Value_ok {s:Str}{r:Str×Bool}(h:chars_Value s=some r):XSpec Tryz.prog 216 [S s] [] (.tup [S r.1,B r.2]) [] []:=by
 unfold chars_Value at h;refine zd Tryz.hU Tryz.func216 (fun _ _ _ hB=> ?_);refine z.c.j.t.g ?_;refine QM (e:=cS) [[9],[32],[10],[32],[13],[32]] ?_;refine zi [(7000101,1005),(7000151,100651),(7000152,100652)] [1005] h (fun _=>strings_NewReplacer_s1_ok) (fun v1 _ h=> ?_);refine z.q1.p.g ?_;refine zi [(8000101,100651),(8000102,100652)] [100651,100652] h (fun _=>chars_expand_s1_ok) (fun v2 _ h=> ?_);refine z.a3.n1.g ?_;apply zb [] hB h
theorem stringslite_IndexByte_ok {s:Str}{c:UInt8}{r:Int}(h:JL s c=some r):XSpec Tryz.prog 217 [S s,U c] [] (I r) [] []:=by
 unfold JL at h;refine zd Tryz.hU Tryz.func217 (fun _ _ _ hB=> ?_);refine z.p.c.g ?_;refine l_nat (indexByte_spec Tryz.func249 s c) ?_;refine z.l.g ?_;apply zb [] hB h
theorem strings_IndexByte_ok {s:Str}{c:UInt8}{r:Int}(h:JP s c=some r):XSpec Tryz.prog 168 [S s,U c] [] (I r) [] []:=by
 unfold JP at h;refine zd Tryz.hU Tryz.func168 (fun _ _ _ hB=> ?_);refine z.p.c.g ?_;refine zm h (fun _=>stringslite_IndexByte_ok) (fun v1 _ h=> ?_);refine z.l.g ?_;apply zb [] hB h
theorem name_Trim_ok {s:Str}{r:Str}(h:name_Trim s=some r):XSpec Tryz.prog 169 [S s] [] (S r) [] []:=by
 unfold name_Trim at h;refine zd Tryz.hU Tryz.func169 (fun _ _ _ hB=> ?_);refine z.c9.k3.g ?_;refine zH (fun y1=>⟨[(0,S y1)],[],[]⟩) (fun q5=>(.exit 0,⟨[(0,S q5)],[],[]⟩)) [] hB h (fun y1 t h=> ?_) (fun q5 h=> ?_)
 ·unfold name_Trim_b1 at h;refine z.a.j0.T.g ?_;refine zc h (fun _ h=> ?_) (fun _ h=> ?_)
  ·refine z.f.g ?_;refine Qz h (fun v2 _ h=> ?_);refine l_on ?_;refine zm h (fun _=>zaf) (fun v3 _ h=> ?_);refine z.i2.g ?_;refine zn h (fun _ h=> ?_) (fun _ h=> ?_)
   ·refine z.h.k4.g ?_;refine Zr h (fun v4 _ h=> ?_);refine z.i6.g ?_;exact zu [] hB h
   refine z.k.g ?_;exact zr [] hB h
  refine z.k.h8.o.g ?_;exact zr [] hB h
 refine z.c9.H.P.g ?_;refine zH (fun y6=>⟨[(0,S y6)],[],[]⟩) (fun q10=>(.exit 2,⟨[(0,S q10)],[],[]⟩)) [] hB h (fun y6 t h=> ?_) (fun q10 h=> ?_)
 ·unfold name_Trim_b2 at h;refine z.a.j0.T.g ?_;refine zc h (fun _ h=> ?_) (fun _ h=> ?_)
  ·refine z.b5.S.b5.V.f.r.g ?_;refine Qz h (fun v7 _ h=> ?_);refine l_on ?_;refine zm h (fun _=>zaf) (fun v8 _ h=> ?_);refine z.i2.g ?_;refine zn h (fun _ h=> ?_) (fun _ h=> ?_)
   ·refine z.S.V.C.k4.g ?_;refine Zr h (fun v9 _ h=> ?_);refine z.i6.g ?_;exact zu [] hB h
   refine z.k.g ?_;exact zr [] hB h
  refine z.k.h8.n.m.g ?_;exact zr [] hB h
 refine z.l.i9.g ?_;apply zb [] hB h
theorem chars_Content_c1_ok {x:Str}{r:Str}(h:J3 x=some r):XSpec Tryz.prog 219 [S x] [] (S r) [] []:=by
 unfold J3 at h;refine zd Tryz.hU Tryz.func219 (fun _ _ _ hB=> ?_);refine z.l.a8.g ?_;apply zb [] hB h
theorem chars_Content_ok {s:Str}{r:Str×Bool}(h:QV s=some r):XSpec Tryz.prog 170 [S s] [] (.tup [S r.1,B r.2]) [] []:=by
 unfold QV at h;refine zd Tryz.hU Tryz.func170 (fun _ _ _ hB=> ?_);refine z.G.t.g ?_;refine zm h (fun _=>ZK) (fun v1 _ h=> ?_);refine z.e.g ?_;refine zn h (fun _ h=> ?_) (fun _ h=> ?_)
 ·refine z.Q.g ?_;apply zb [] hB h
 refine z.y.g ?_;refine zm h (fun _=>chars_expand_ok (fun h=>chars_Content_c1_ok h) ⟨rfl,rfl⟩) (fun v2 _ h=> ?_);refine z.a3.n1.g ?_;apply zb [] hB h
theorem doc_bare_ok {x:ze}{r:Bool}(h:doc_bare x=some r):XSpec Tryz.prog 171 [.agg (zl x)] [] (B r) [] []:=by
 unfold doc_bare at h;refine zd Tryz.hU Tryz.func171 (fun _ _ _ hB=> ?_);refine z.a.W.h5.j.l3.c.g ?_;refine zc h (fun _ h=> ?_) (fun _ h=> ?_)
 ·refine z.b3.h6.g ?_;refine zc h (fun _ h=> ?_) (fun _ h=> ?_)
  ·refine z.b3.c6.N.J.g ?_;refine zc h (fun _ h=> ?_) (fun _ h=> ?_)
   ·refine z.b9.c6.N.J.g ?_;apply zb [] hB h
   refine z.c3.m.g ?_;apply zb [] hB h
  refine z.c3.m.q.m.g ?_;apply zb [] hB h
 refine z.c3.m.q.m.j8.g ?_;apply zb [] hB h
theorem doc_stands_ok {l:(List ze)}{n:Int}{r:Bool}(h:zao l n=some r):XSpec Tryz.prog 172 [.vs l.length (F zl l),I n] [] (B r) [] []:=by
 unfold zao at h;refine zd Tryz.hU Tryz.func172 (fun _ _ _ hB=> ?_);refine z.j4.S.e9.g ?_;refine zH (fun y1=>⟨[(0,.vs l.length (F zl l)),(1,I n),(5,I y1)],[],[]⟩) (Sum.elim (fun q6=>(.ret,⟨[(4,B q6)],[],[]⟩)) (fun q7=>(.exit 0,⟨[],[],[]⟩))) [] hB h (fun y1 t h=> ?_) (fun q h=> ?_)
 ·unfold ZW at h;refine z.u.T.g ?_;refine zn h (fun _ h=> ?_) (fun _ h=> ?_)
  ·refine z.a.i.a4.g ?_;refine QH h (fun v2 _ h=> ?_);refine z.u.a2.g ?_;refine zn h (fun _ h=> ?_) (fun _ h=> ?_)
   ·refine z.i.g ?_;refine QH h (fun v3 _ h=> ?_);refine z.w.a2.g ?_;refine zc h (fun _ h=> ?_) (fun _ h=> ?_)
    ·refine z.F.c7.n.m.g ?_;exact zr [] hB h
    refine z.f.r.g ?_;refine QH h (fun v4 _ h=> ?_);refine z.F.l4.b7.J.g ?_;exact zr [] hB h
   refine z.C.h1.Y.g ?_;refine QH h (fun v5 _ h=> ?_);refine z.E.a2.g ?_;exact zu [] hB h
  refine z.k.g ?_;exact zr [] hB h
 rcases q with q6|q7
 ·dsimp only [Sum.elim] at h ⊢
  refine z.a1.g ?_;apply zb [] hB h
 dsimp only [Sum.elim] at h ⊢
 refine z.b2.P.g ?_;apply zb [] hB h
theorem doc_declared_c1_ok {o:za}{p1:za}{r:Bool}(h:zai o p1=some r):XSpec Tryz.prog 252 [.agg (zk o),.vptr (zk p1)] [] (B r) [] []:=by
 unfold zai at h;refine zd Tryz.hU Tryz.func252 (fun _ _ _ hB=> ?_);refine z.l.W.a2.h5.j.l3.c.g ?_;apply zb [] hB h
theorem slices_IndexFunc_Decl_ok {s:(List za)}{f:(za→Option Bool)}{fk_f:Nat}{fc_f:List AV}(hf_f: ∀ {x0:za} {r:Bool},f x0=some r→XSpec Tryz.prog fk_f ((.agg (zk x0))::fc_f) [] (B r) [] [])(hc_f:AV.closedL fc_f=true∧AV.onlyL [] fc_f=true){r:Int}(h:QF s f=some r):XSpec Tryz.prog 269 [.vs s.length (F zk s),.fn (.func fk_f) [] fc_f] [] (I r) [] []:=by
 unfold QF at h;refine zd Tryz.hU Tryz.func269 (fun _ _ _ hB=> ?_);refine z.e6.e9.g ?_;refine zH (fun y1=>⟨[(0,.vs s.length (F zk s)),(1,.fn (.func fk_f) [] fc_f),(7,I (s.length:Int)),(8,I y1)],[],[]⟩) (Sum.elim (fun q4=>(.ret,⟨[(4,I q4)],[],[]⟩)) (fun q5=>(.exit 0,⟨[],[],[]⟩))) [] hB h (fun y1 t h=> ?_) (fun q h=> ?_)
 ·unfold qo at h;refine z.b8.g ?_;refine zn h (fun _ h=> ?_) (fun _ h=> ?_)
  ·refine z.a.p.k7.g ?_;refine QH h (fun v2 _ h=> ?_);refine l_load_agg ?_;refine l_callF hc_f h (fun _=>hf_f) (fun v3 _ h=> ?_);refine z.e.g ?_;refine zn h (fun _ h=> ?_) (fun _ h=> ?_)
   ·refine z.F.b.g ?_;exact zr [] hB h
   refine z.e3.g ?_;exact zu [] hB h
  refine z.k.g ?_;exact zr [] hB h
 rcases q with q4|q5
 ·dsimp only [Sum.elim] at h ⊢
  refine z.a1.g ?_;apply zb [] hB h
 dsimp only [Sum.elim] at h ⊢
 refine z.b2.P.g ?_;apply zb [] hB h
theorem slices_ContainsFunc_Decl_ok {s:(List za)}{f:(za→Option Bool)}{fk_f:Nat}{fc_f:List AV}(hf_f: ∀ {x0:za} {r:Bool},f x0=some r→XSpec Tryz.prog fk_f ((.agg (zk x0))::fc_f) [] (B r) [] [])(hc_f:AV.closedL fc_f=true∧AV.onlyL [] fc_f=true){r:Bool}(h:Zj s f=some r):XSpec Tryz.prog 251 [.vs s.length (F zk s),.fn (.func fk_f) [] fc_f] [] (B r) [] []:=by
 unfold Zj at h;refine zd Tryz.hU Tryz.func251 (fun _ _ _ hB=> ?_);refine z.p.c.g ?_;refine zm h (fun _=>slices_IndexFunc_Decl_ok (fun h=>hf_f h) hc_f) (fun v1 _ h=> ?_);refine z.l.b7.g ?_;apply zb [] hB h
theorem doc_prefix_ok {s:Str}{r:Bool}(h:JS s=some r):XSpec Tryz.prog 253 [S s] [] (B r) [] []:=by
 unfold JS at h;refine zd Tryz.hU Tryz.func253 (fun _ _ _ hB=> ?_);refine z.a.W.a8.g ?_;refine zc h (fun _ h=> ?_) (fun _ h=> ?_)
 ·refine z.b9.n.g ?_;apply zb [] hB h
 refine z.f.g ?_;refine zm h (fun _=>ZU) (fun v1 _ h=> ?_);refine z.c3.g ?_;apply zb [] hB h
theorem Jm {s:Str}{r:Bool}(h:JF s=some r):XSpec Tryz.prog 222 [S s] [] (B r) [] []:=by
 unfold JF at h;refine zd Tryz.hU Tryz.func222 (fun _ _ _ hB=> ?_);refine z.o3.a8.g ?_;refine l_callB h (fun _=>utf_Text_ok) (fun v1 _ h=> ?_);refine z.l.g ?_;apply zb [] hB h
theorem doc_declared_ok {l:(List za)}{r:Bool}(h:doc_declared l=some r):XSpec Tryz.prog 220 [.vs l.length (F zk l)] [] (B r) [] []:=by
 unfold doc_declared at h;refine zd Tryz.hU Tryz.func220 (fun _ _ _ hB=> ?_);refine z.e6.e9.g ?_;refine zH (fun y1=>⟨[(0,.vs l.length (F zk l)),(6,.vs l.length (F zk l)),(7,I (l.length:Int)),(8,I y1)],[],[]⟩) (Sum.elim (fun q7=>(.ret,⟨[(2,B false)],[],[]⟩)) (fun q8=>(.exit 0,⟨[],[],[]⟩))) [] hB h (fun y1 t h=> ?_) (fun q h=> ?_)
 ·unfold Qd at h;refine z.b8.g ?_;refine zn h (fun _ h=> ?_) (fun _ h=> ?_)
  ·refine z.k7.g ?_;refine QH h (fun v2 _ h=> ?_);refine z.i.f4.A.f3.d5.g ?_;refine l_subf h (fun v3 _ h=> ?_);refine l_makeFunc ?_;refine l_callB h (fun _=>slices_ContainsFunc_Decl_ok (fun h=>doc_declared_c1_ok h) ⟨rfl,rfl⟩) (fun v4 _ h=> ?_);refine z.p.g ?_;refine zc h (fun _ h=> ?_) (fun _ h=> ?_)
   ·refine z.f6.j2.o.f1.R.R.j2.m.g ?_;exact zr [] hB h
   refine z.J.g ?_;refine zm h (fun _=>doc_prefix_ok) (fun v5 _ h=> ?_);refine z.q.Z.g ?_;refine zc h (fun _ h=> ?_) (fun _ h=> ?_)
   ·refine z.f6.j2.o.f1.R.R.o.g ?_;exact zr [] hB h
   refine z.q.h6.g ?_;refine zc h (fun _ h=> ?_) (fun _ h=> ?_)
   ·refine z.f6.j2.o.f1.f1.g ?_;exact zr [] hB h
   refine z.J.g ?_;refine zm h (fun _=>Jm) (fun v6 _ h=> ?_);refine z.q.Z.g ?_;refine zc h (fun _ h=> ?_) (fun _ h=> ?_)
   ·refine z.f6.j2.o.f1.m.g ?_;exact zr [] hB h
   refine z.r.h6.g ?_;refine zc h (fun _ h=> ?_) (fun _ h=> ?_)
   ·refine z.q.f5.j0.J.g ?_;refine zc h (fun _ h=> ?_) (fun _ h=> ?_)
    ·refine z.f6.j2.o.m.g ?_;exact zr [] hB h
    refine z.q.r5.b5.h6.h6.g ?_;refine zc h (fun _ h=> ?_) (fun _ h=> ?_)
    ·refine z.f6.o.g ?_;exact zr [] hB h
    refine z.d7.h6.g ?_;refine zn h (fun _ h=> ?_) (fun _ h=> ?_)
    ·refine z.j6.g ?_;exact zr [] hB h
    refine z.e3.g ?_;exact zu [] hB h
   refine z.q.r5.b5.h6.h6.q.f8.o.g ?_;refine zc h (fun _ h=> ?_) (fun _ h=> ?_)
   ·refine z.f6.o.g ?_;exact zr [] hB h
   refine z.d7.h6.g ?_;refine zn h (fun _ h=> ?_) (fun _ h=> ?_)
   ·refine z.j6.g ?_;exact zr [] hB h
   refine z.e3.g ?_;exact zu [] hB h
  refine z.k.g ?_;exact zr [] hB h
 rcases q with q7|q8
 ·dsimp only [Sum.elim] at h ⊢
  refine z.a1.g ?_;apply zb [] hB h
 dsimp only [Sum.elim] at h ⊢
 refine z.b2.P.g ?_;apply zb [] hB h
theorem doc_means_ok {l:(List ze)}{n:Int}{p:Str}{r:Str×Bool}(h:doc_means l n p=some r):XSpec Tryz.prog 254 [.vs l.length (F zl l),I n,S p] [] (.tup [S r.1,B r.2]) [] []:=by
 unfold doc_means at h;refine zd Tryz.hU Tryz.func254 (fun _ _ _ hB=> ?_);refine z.e.W.G.t.g ?_;refine zn h (fun _ h=> ?_) (fun _ h=> ?_)
 ·refine z.Q.g ?_;apply zb [] hB h
 refine z.a4.g ?_;refine zH (fun y1=>⟨[(0,.vs l.length (F zl l)),(1,I y1),(2,S p)],[],[]⟩) (Sum.elim (fun q8=>(.ret,⟨[(6,S q8),(7,B true)],[],[]⟩)) (fun q9=>(.exit 0,⟨[(2,S p)],[],[]⟩))) [] hB h (fun y1 t h=> ?_) (fun q h=> ?_)
 ·unfold doc_means_b1 at h;refine z.u.T.g ?_;refine zn h (fun _ h=> ?_) (fun _ h=> ?_)
  ·refine z.i.a4.g ?_;refine QH h (fun v2 _ h=> ?_);refine z.e6.a2.g ?_;refine zH (fun y3=>⟨[(0,.vs l.length (F zl l)),(1,I y1),(2,S p),(23,.vs v2.Decls.length (F zk v2.Decls)),(24,I (v2.Decls.length:Int)),(25,I y3)],[],[]⟩) (Sum.elim (fun q5=>(.ret,⟨[(6,S q5),(7,B true)],[],[]⟩)) (fun q6=>(.exit 2,⟨[(0,.vs l.length (F zl l)),(1,I y1),(2,S p)],[],[]⟩))) [] hB h (fun y3 t h=> ?_) (fun q h=> ?_)
   ·unfold doc_means_b2 at h;refine z.b8.g ?_;refine zn h (fun _ h=> ?_) (fun _ h=> ?_)
    ·refine z.c.a4.g ?_;refine QH h (fun v4 _ h=> ?_);refine z.e.W.a.h5.f4.f3.d5.g ?_;refine zn h (fun _ h=> ?_) (fun _ h=> ?_)
     ·refine z.F.A.h5.g ?_;exact zr [] hB h
     refine z.e3.g ?_;exact zu [] hB h
    refine z.k.g ?_;exact zr [] hB h
   rcases q with q5|q6
   ·dsimp only [Sum.elim] at h ⊢
    refine z.a1.B.g ?_;exact zr [] hB h
   dsimp only [Sum.elim] at h ⊢
   refine z.C.h1.n6.g ?_;refine QH h (fun v7 _ h=> ?_);refine z.E.a2.g ?_;exact zu [] hB h
  refine z.k.g ?_;exact zr [] hB h
 rcases q with q8|q9
 ·dsimp only [Sum.elim] at h ⊢
  refine z.a1.g ?_;apply zb [] hB h
 dsimp only [Sum.elim] at h ⊢
 refine z.a3.W.i9.g ?_;apply zb [] hB h
theorem doc_named_c1_ok {o:zO}{p1:zO}{r:Bool}(h:J8 o p1=some r):XSpec Tryz.prog 256 [.agg (qu o),.vptr (qu p1)] [] (B r) [] []:=by
 unfold J8 at h;refine zd Tryz.hU Tryz.func256 (fun _ _ _ hB=> ?_);refine z.a.W.a2.h5.j.l3.c.g ?_;refine zc h (fun _ h=> ?_) (fun _ h=> ?_)
 ·refine z.b9.W.o4.J.g ?_;apply zb [] hB h
 refine z.c3.c5.m.g ?_;apply zb [] hB h
theorem slices_IndexFunc_Attr_ok {s:(List zO)}{f:(zO→Option Bool)}{fk_f:Nat}{fc_f:List AV}(hf_f: ∀ {x0:zO} {r:Bool},f x0=some r→XSpec Tryz.prog fk_f ((.agg (qu x0))::fc_f) [] (B r) [] [])(hc_f:AV.closedL fc_f=true∧AV.onlyL [] fc_f=true){r:Int}(h:QE s f=some r):XSpec Tryz.prog 270 [.vs s.length (F qu s),.fn (.func fk_f) [] fc_f] [] (I r) [] []:=by
 unfold QE at h;refine zd Tryz.hU Tryz.func270 (fun _ _ _ hB=> ?_);refine z.e6.e9.g ?_;refine zH (fun y1=>⟨[(0,.vs s.length (F qu s)),(1,.fn (.func fk_f) [] fc_f),(7,I (s.length:Int)),(8,I y1)],[],[]⟩) (Sum.elim (fun q4=>(.ret,⟨[(4,I q4)],[],[]⟩)) (fun q5=>(.exit 0,⟨[],[],[]⟩))) [] hB h (fun y1 t h=> ?_) (fun q h=> ?_)
 ·unfold qn at h;refine z.b8.g ?_;refine zn h (fun _ h=> ?_) (fun _ h=> ?_)
  ·refine z.a.p.k7.g ?_;refine QH h (fun v2 _ h=> ?_);refine l_load_agg ?_;refine l_callF hc_f h (fun _=>hf_f) (fun v3 _ h=> ?_);refine z.e.g ?_;refine zn h (fun _ h=> ?_) (fun _ h=> ?_)
   ·refine z.F.b.g ?_;exact zr [] hB h
   refine z.e3.g ?_;exact zu [] hB h
  refine z.k.g ?_;exact zr [] hB h
 rcases q with q4|q5
 ·dsimp only [Sum.elim] at h ⊢
  refine z.a1.g ?_;apply zb [] hB h
 dsimp only [Sum.elim] at h ⊢
 refine z.b2.P.g ?_;apply zb [] hB h
theorem JN {s:(List zO)}{f:(zO→Option Bool)}{fk_f:Nat}{fc_f:List AV}(hf_f: ∀ {x0:zO} {r:Bool},f x0=some r→XSpec Tryz.prog fk_f ((.agg (qu x0))::fc_f) [] (B r) [] [])(hc_f:AV.closedL fc_f=true∧AV.onlyL [] fc_f=true){r:Bool}(h:qK s f=some r):XSpec Tryz.prog 255 [.vs s.length (F qu s),.fn (.func fk_f) [] fc_f] [] (B r) [] []:=by
 unfold qK at h;refine zd Tryz.hU Tryz.func255 (fun _ _ _ hB=> ?_);refine z.p.c.g ?_;refine zm h (fun _=>slices_IndexFunc_Attr_ok (fun h=>hf_f h) hc_f) (fun v1 _ h=> ?_);refine z.l.b7.g ?_;apply zb [] hB h
theorem doc_named_ok {l:(List ze)}{n:Int}{r:Bool}(h:doc_named l n=some r):XSpec Tryz.prog 221 [.vs l.length (F zl l),I n] [] (B r) [] []:=by
 unfold doc_named at h;refine zd Tryz.hU Tryz.func221 (fun _ _ _ hB=> ?_);refine z.p.c.g ?_;refine QH h (fun v1 _ h=> ?_);refine z.a2.i.f4.f3.d5.g ?_;refine zm h (fun _=>doc_means_ok) (fun v2 _ h=> ?_);refine z.f2.M.g ?_;refine qW (fun q5=>(.normal,⟨[(0,.vs l.length (F zl l)),(1,I n),(5,.ptr 1005 0),(49,B q5)],[(1005,.box 48 [I v1.Kind,I v1.Parent,S v1.Prefix,S v1.Local,S v1.URI,S v1.Text,.vs v1.Decls.length (F zk v1.Decls),.vs v1.Attrs.length (F qu v1.Attrs)])],[]⟩)) h (fun t h=> ?_) (fun q5 h=> ?_)
 ·refine z.h0.h.g ?_;refine zc h (fun _ h=> ?_) (fun _ h=> ?_)
  ·refine z.O.j2.R.f1.g ?_;exact zp [(1005,1005)] hB h
  refine z.q.j0.o4.f.g ?_;refine zc h (fun _ h=> ?_) (fun _ h=> ?_)
  ·refine z.O.j2.f1.g ?_;exact zp [(1005,1005)] hB h
  refine z.J.g ?_;refine zm h (fun _=>ZU) (fun v3 _ h=> ?_);refine z.q.Z.g ?_;refine zc h (fun _ h=> ?_) (fun _ h=> ?_)
  ·refine z.O.j2.m.g ?_;exact zp [(1005,1005)] hB h
  refine z.J.g ?_;refine zm h (fun _=>doc_prefix_ok) (fun v4 _ h=> ?_);refine l_to [(1005,1005)] ⟨[(0,.vs l.length (F zl l)),(1,I n),(5,.ptr 1005 0),(39,B false),(42,B v4)],[(1005,.box 48 [I v1.Kind,I v1.Parent,S v1.Prefix,S v1.Local,S v1.URI,S v1.Text,.vs v1.Decls.length (F zk v1.Decls),.vs v1.Attrs.length (F qu v1.Attrs)])],[]⟩ hB ?_;refine z.q.Z.g ?_;refine zc h (fun _ h=> ?_) (fun _ h=> ?_)
  ·refine z.O.o.g ?_;exact zp [(1005,1005)] hB h
  refine z.b6.h6.g ?_;exact zp [(1005,1005)] hB h
 refine f_t ?_;refine zn h (fun _ h=> ?_) (fun _ h=> ?_)
 ·refine z.a6.g ?_;apply zb [] hB h
 refine z.e6.h5.d8.g ?_;refine zH (fun y6=>⟨[(0,.vs l.length (F zl l)),(1,I n),(5,.ptr 1005 0),(51,.vs v1.Attrs.length (F qu v1.Attrs)),(52,I (v1.Attrs.length:Int)),(53,I y6)],[(1005,.box 48 [I v1.Kind,I v1.Parent,S v1.Prefix,S v1.Local,S v1.URI,S v1.Text,.vs v1.Decls.length (F zk v1.Decls),.vs v1.Attrs.length (F qu v1.Attrs)])],[]⟩) (Sum.elim (fun q21=>(.ret,⟨[(4,B false)],[],[]⟩)) (fun q22=>(.exit 0,⟨[],[],[]⟩))) [(1005,1005)] hB h (fun y6 t h=> ?_) (fun q h=> ?_)
 ·unfold Jp at h;refine z.b8.g ?_;refine zn h (fun _ h=> ?_) (fun _ h=> ?_)
  ·refine z.k7.g ?_;refine QH h (fun v7 _ h=> ?_);refine z.a2.i.f4.A.f3.d5.g ?_;refine zm h (fun _=>doc_means_ok) (fun v8 _ h=> ?_);refine z.e.W.h5.b4.M.g ?_;refine zn h (fun _ h=> ?_) (fun _ h=> ?_)
   ·refine z.a.h5.j.o0.g ?_;refine l_subf h (fun v9 _ h=> ?_);refine l_makeFunc ?_;refine l_callB h (fun _=>JN (fun h=>doc_named_c1_ok h) ⟨rfl,rfl⟩) (fun v10 _ h=> ?_);refine z.p.g ?_;refine zc h (fun _ h=> ?_) (fun _ h=> ?_)
    ·refine z.f6.f1.R.j2.R.R.R.n.g ?_;exact zr [] hB h
    refine z.q.j9.f.g ?_;refine zc h (fun _ h=> ?_) (fun _ h=> ?_)
    ·refine z.f6.f1.R.j2.R.f1.g ?_;exact zr [] hB h
    refine z.q.j0.o4.f.g ?_;refine zc h (fun _ h=> ?_) (fun _ h=> ?_)
    ·refine z.f6.f1.R.j2.f1.g ?_;exact zr [] hB h
    refine z.J.g ?_;refine zm h (fun _=>ZU) (fun v11 _ h=> ?_);refine z.q.Z.g ?_;refine zc h (fun _ h=> ?_) (fun _ h=> ?_)
    ·refine z.f6.f1.R.j2.m.g ?_;exact zr [] hB h
    refine z.J.g ?_;refine zm h (fun _=>doc_prefix_ok) (fun v12 _ h=> ?_);refine l_to [(1005,1005),(1009,1009)] ⟨[(0,.vs l.length (F zl l)),(1,I n),(5,.ptr 1005 0),(9,.ptr 1009 0),(51,.vs v1.Attrs.length (F qu v1.Attrs)),(52,I (v1.Attrs.length:Int)),(53,I y6),(77,B v8.2),(78,B (!v8.2)),(81,S []),(82,.ptr 1009 2),(83,S v7.URI),(84,B (!([]==v7.URI))),(87,.ptr 1009 1),(88,S v7.Local),(89,B v11),(90,B (!v11)),(92,B false),(93,.ptr 1009 0),(94,S v7.Prefix),(95,B v12)],[(1005,.box 48 [I v1.Kind,I v1.Parent,S v1.Prefix,S v1.Local,S v1.URI,S v1.Text,.vs v1.Decls.length (F zk v1.Decls),.vs v1.Attrs.length (F qu v1.Attrs)]),(1009,.box 126 [S v7.Prefix,S v7.Local,S v7.URI,S v7.Value])],[]⟩ hB ?_;refine z.q.Z.g ?_;refine zc h (fun _ h=> ?_) (fun _ h=> ?_)
    ·refine z.f6.f1.R.o.g ?_;exact zr [] hB h
    refine z.q.h6.g ?_;refine zc h (fun _ h=> ?_) (fun _ h=> ?_)
    ·refine z.f6.f1.m.g ?_;exact zr [] hB h
    refine z.r.h6.g ?_;refine zc h (fun _ h=> ?_) (fun _ h=> ?_)
    ·refine z.q.f5.h6.g ?_;refine zc h (fun _ h=> ?_) (fun _ h=> ?_)
     ·refine z.f6.m.g ?_;exact zr [] hB h
     refine z.J.g ?_;refine zm h (fun _=>Jm) (fun v13 _ h=> ?_);refine z.d7.Z.g ?_;refine zn h (fun _ h=> ?_) (fun _ h=> ?_)
     ·refine z.j6.g ?_;exact zr [] hB h
     refine z.e3.g ?_;exact zu [(1005,1005)] hB h
    refine z.J.q.f8.o.g ?_;refine zm h (fun _=>Jm) (fun v14 _ h=> ?_);refine z.d7.Z.g ?_;refine zn h (fun _ h=> ?_) (fun _ h=> ?_)
    ·refine z.j6.g ?_;exact zr [] hB h
    refine z.e3.g ?_;exact zu [(1005,1005)] hB h
   refine z.a.h5.I.g ?_;refine l_subf h (fun v15 _ h=> ?_);refine l_makeFunc ?_;refine l_callB h (fun _=>JN (fun h=>doc_named_c1_ok h) ⟨rfl,rfl⟩) (fun v16 _ h=> ?_);refine z.p.g ?_;refine zc h (fun _ h=> ?_) (fun _ h=> ?_)
   ·refine z.f6.f1.R.j2.R.R.R.n.g ?_;exact zr [] hB h
   refine z.q.j9.f.g ?_;refine zc h (fun _ h=> ?_) (fun _ h=> ?_)
   ·refine z.f6.f1.R.j2.R.f1.g ?_;exact zr [] hB h
   refine z.q.j0.o4.f.g ?_;refine zc h (fun _ h=> ?_) (fun _ h=> ?_)
   ·refine z.f6.f1.R.j2.f1.g ?_;exact zr [] hB h
   refine z.J.g ?_;refine zm h (fun _=>ZU) (fun v17 _ h=> ?_);refine z.q.Z.g ?_;refine zc h (fun _ h=> ?_) (fun _ h=> ?_)
   ·refine z.f6.f1.R.j2.m.g ?_;exact zr [] hB h
   refine z.J.g ?_;refine zm h (fun _=>doc_prefix_ok) (fun v18 _ h=> ?_);refine l_to [(1005,1005),(1009,1009)] ⟨[(0,.vs l.length (F zl l)),(1,I n),(5,.ptr 1005 0),(9,.ptr 1009 0),(51,.vs v1.Attrs.length (F qu v1.Attrs)),(52,I (v1.Attrs.length:Int)),(53,I y6),(77,B v8.2),(78,B (!v8.2)),(81,S v8.1),(82,.ptr 1009 2),(83,S v7.URI),(84,B (!(v8.1==v7.URI))),(87,.ptr 1009 1),(88,S v7.Local),(89,B v17),(90,B (!v17)),(92,B false),(93,.ptr 1009 0),(94,S v7.Prefix),(95,B v18)],[(1005,.box 48 [I v1.Kind,I v1.Parent,S v1.Prefix,S v1.Local,S v1.URI,S v1.Text,.vs v1.Decls.length (F zk v1.Decls),.vs v1.Attrs.length (F qu v1.Attrs)]),(1009,.box 126 [S v7.Prefix,S v7.Local,S v7.URI,S v7.Value])],[]⟩ hB ?_;refine z.q.Z.g ?_;refine zc h (fun _ h=> ?_) (fun _ h=> ?_)
   ·refine z.f6.f1.R.o.g ?_;exact zr [] hB h
   refine z.q.h6.g ?_;refine zc h (fun _ h=> ?_) (fun _ h=> ?_)
   ·refine z.f6.f1.m.g ?_;exact zr [] hB h
   refine z.r.h6.g ?_;refine zc h (fun _ h=> ?_) (fun _ h=> ?_)
   ·refine z.q.f5.h6.g ?_;refine zc h (fun _ h=> ?_) (fun _ h=> ?_)
    ·refine z.f6.m.g ?_;exact zr [] hB h
    refine z.J.g ?_;refine zm h (fun _=>Jm) (fun v19 _ h=> ?_);refine z.d7.Z.g ?_;refine zn h (fun _ h=> ?_) (fun _ h=> ?_)
    ·refine z.j6.g ?_;exact zr [] hB h
    refine z.e3.g ?_;exact zu [(1005,1005)] hB h
   refine z.J.q.f8.o.g ?_;refine zm h (fun _=>Jm) (fun v20 _ h=> ?_);refine z.d7.Z.g ?_;refine zn h (fun _ h=> ?_) (fun _ h=> ?_)
   ·refine z.j6.g ?_;exact zr [] hB h
   refine z.e3.g ?_;exact zu [(1005,1005)] hB h
  refine z.k.g ?_;exact zr [] hB h
 rcases q with q21|q22
 ·dsimp only [Sum.elim] at h ⊢
  refine z.a1.g ?_;apply zb [] hB h
 dsimp only [Sum.elim] at h ⊢
 refine z.b2.P.g ?_;apply zb [] hB h
theorem zac {s:Str}{suffix:Str}{r:Bool}(h:Zh s suffix=some r):XSpec Tryz.prog 257 [S s,S suffix] [] (B r) [] []:=by
 unfold Zh at h;refine zd Tryz.hU Tryz.func257 (fun _ _ _ hB=> ?_);refine z.w.V.a.V.a8.g ?_;refine zc h (fun _ h=> ?_) (fun _ h=> ?_)
 ·refine z.b5.S.b5.V.f.V.f.r.g ?_;refine Zr h (fun v1 _ h=> ?_);refine z.b9.W.f.g ?_;apply zb [] hB h
 refine z.c3.c5.i4.g ?_;apply zb [] hB h
theorem strings_HasSuffix_ok {s:Str}{suffix:Str}{r:Bool}(h:Z4 s suffix=some r):XSpec Tryz.prog 223 [S s,S suffix] [] (B r) [] []:=by
 unfold Z4 at h;refine zd Tryz.hU Tryz.func223 (fun _ _ _ hB=> ?_);refine z.p.c.g ?_;refine zm h (fun _=>zac) (fun v1 _ h=> ?_);refine z.l.g ?_;apply zb [] hB h
theorem doc_target_ok {s:Str}{r:Bool}(h:zap s=some r):XSpec Tryz.prog 224 [S s] [] (B r) [] []:=by
 unfold zap at h;refine zd Tryz.hU Tryz.func224 (fun _ _ _ hB=> ?_);refine z.w.V.a8.g ?_;refine zc h (fun _ h=> ?_) (fun _ h=> ?_)
 ·refine z.f.g ?_;refine Qz h (fun v1 _ h=> ?_);refine z.r.c6.g ?_;refine zc h (fun _ h=> ?_) (fun _ h=> ?_)
  ·refine z.f.b3.f5.o.g ?_;refine Qz h (fun v2 _ h=> ?_);refine z.r.c6.g ?_;refine zc h (fun _ h=> ?_) (fun _ h=> ?_)
   ·refine z.f.b3.f5.o.g ?_;refine Qz h (fun v3 _ h=> ?_);refine z.r.c6.g ?_;refine zc h (fun _ h=> ?_) (fun _ h=> ?_)
    ·refine z.b9.f5.o.g ?_;apply zb [] hB h
    refine z.f.g ?_;refine Qz h (fun v4 _ h=> ?_);refine z.b9.f8.c6.g ?_;apply zb [] hB h
   refine z.f.g ?_;refine Qz h (fun v5 _ h=> ?_);refine z.b3.f8.c6.g ?_;refine zc h (fun _ h=> ?_) (fun _ h=> ?_)
   ·refine z.f.g ?_;refine Qz h (fun v6 _ h=> ?_);refine z.r.c6.g ?_;refine zc h (fun _ h=> ?_) (fun _ h=> ?_)
    ·refine z.b9.f5.o.g ?_;apply zb [] hB h
    refine z.f.g ?_;refine Qz h (fun v7 _ h=> ?_);refine z.b9.f8.c6.g ?_;apply zb [] hB h
   refine z.c3.i4.g ?_;apply zb [] hB h
  refine z.f.g ?_;refine Qz h (fun v8 _ h=> ?_);refine z.b3.f8.c6.g ?_;refine zc h (fun _ h=> ?_) (fun _ h=> ?_)
  ·refine z.f.g ?_;refine Qz h (fun v9 _ h=> ?_);refine z.r.c6.g ?_;refine zc h (fun _ h=> ?_) (fun _ h=> ?_)
   ·refine z.f.b3.f5.o.g ?_;refine Qz h (fun v10 _ h=> ?_);refine z.r.c6.g ?_;refine zc h (fun _ h=> ?_) (fun _ h=> ?_)
    ·refine z.b9.f5.o.g ?_;apply zb [] hB h
    refine z.f.g ?_;refine Qz h (fun v11 _ h=> ?_);refine z.b9.f8.c6.g ?_;apply zb [] hB h
   refine z.f.g ?_;refine Qz h (fun v12 _ h=> ?_);refine z.b3.f8.c6.g ?_;refine zc h (fun _ h=> ?_) (fun _ h=> ?_)
   ·refine z.f.g ?_;refine Qz h (fun v13 _ h=> ?_);refine z.r.c6.g ?_;refine zc h (fun _ h=> ?_) (fun _ h=> ?_)
    ·refine z.b9.f5.o.g ?_;apply zb [] hB h
    refine z.f.g ?_;refine Qz h (fun v14 _ h=> ?_);refine z.b9.f8.c6.g ?_;apply zb [] hB h
   refine z.c3.i4.g ?_;apply zb [] hB h
  refine z.c3.i4.q.i4.g ?_;apply zb [] hB h
 refine z.c3.i4.q.i4.q.i4.g ?_;apply zb [] hB h
end Go.Proofs.YtojbjdcflgeibaaGreatDoor
