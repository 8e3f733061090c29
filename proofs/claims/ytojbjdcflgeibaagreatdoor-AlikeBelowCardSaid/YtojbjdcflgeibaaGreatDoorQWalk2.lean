/- WALKS, printed by aw.py: that the program's functions compute the plain ones. Conditions: none. -/
import Derived.Test.YtojbjdcflgeibaaGreatDoorQWalk1
set_option linter.unusedVariables false
set_option linter.unusedSimpArgs false
set_option maxRecDepth 20000
set_option maxHeartbeats 4000000
namespace Go.Proofs.YtojbjdcflgeibaaGreatDoor
open Go Go.Abs W G
theorem chars_number_ok {s:Str}{base:Int}{r:Int×Bool}(h:QQ s base=some r):XSpec Tryz.prog 267 [S s,.pl (.int .i32 base)] [] (.tup [.pl (.int .i32 r.1),B r.2]) [] []:=by
 unfold QQ at h;refine zf Tryz.hU Tryz.func267 (fun _ _ _ hB=> ?_);refine z.k8.a.Y.e5.i.b1.g ?_;refine zS (fun y1=>⟨[(0,S s),(1,.pl (.int .i32 base)),(6,.pl (.int .i32 y1.1)),(11,I (s.length:Int)),(12,I y1.2)],[],[]⟩) (Sum.elim (fun q5=>(.ret,⟨[(4,.pl (.int .i32 0)),(5,B false)],[],[]⟩)) (fun q6=>(.exit 0,⟨[(0,S s),(6,.pl (.int .i32 q6))],[],[]⟩))) [] hB h (fun y1 t h=> ?_) (fun q h=> ?_)
 ·unfold qa at h;refine z.c0.g ?_;refine zo h (fun _ h=> ?_) (fun _ h=> ?_)
  ·refine z.A.c.I.g ?_;refine ZZ h (fun v2 _ h=> ?_);refine z.a7.Q.a9.C.l7.g ?_;refine qW (fun q3=>(.normal,⟨[(0,S s),(1,.pl (.int .i32 base)),(6,.pl (.int .i32 y1.1)),(8,.pl (.int .i32 (w32 (v2.toNat:Int)))),(9,.pl (.int .i32 base)),(11,I (s.length:Int)),(12,I y1.2),(20,B q3)],[],[]⟩)) h (fun t h=> ?_) (fun q3 h=> ?_)
   ·refine z.B.f.g ?_;refine zb h (fun _ h=> ?_) (fun _ h=> ?_)
    ·refine z.q.f2.G.g ?_;exact zm [] hB h
    refine z.q.d8.k.g ?_;exact zm [] hB h
   refine f_t ?_;refine zo h (fun _ h=> ?_) (fun _ h=> ?_)
   ·refine z.r.j7.f8.q.e4.f.g ?_;refine zo h (fun _ h=> ?_) (fun _ h=> ?_)
    ·refine z.o.M.g ?_;exact zq [] hB h
    refine z.d7.q.n8.h6.a.n0.N.D.g ?_;exact zt [] hB h
   refine k_seq ?_;refine qW (fun q4=>(.normal,⟨[(0,S s),(1,.pl (.int .i32 base)),(6,.pl (.int .i32 y1.1)),(8,.pl (.int .i32 (w32 (v2.toNat:Int)))),(9,.pl (.int .i32 base)),(11,I (s.length:Int)),(12,I y1.2),(29,B q4)],[],[]⟩)) h (fun t h=> ?_) (fun q4 h=> ?_)
   ·refine z.B.f.g ?_;refine zb h (fun _ h=> ?_) (fun _ h=> ?_)
    ·refine z.q.f2.G.g ?_;exact zm [] hB h
    refine z.q.d8.k.g ?_;exact zm [] hB h
   refine f_t ?_;refine zo h (fun _ h=> ?_) (fun _ h=> ?_)
   ·refine z.r.j7.f8.i8.e4.f.g ?_;refine zo h (fun _ h=> ?_) (fun _ h=> ?_)
    ·refine z.o.M.g ?_;exact zq [] hB h
    refine z.d7.q.n8.h6.a.n0.N.D.g ?_;exact zt [] hB h
   refine z.B.c.g ?_;refine zb h (fun _ h=> ?_) (fun _ h=> ?_)
   ·refine z.i.f2.G.g ?_;refine zo h (fun _ h=> ?_) (fun _ h=> ?_)
    ·refine z.r.j7.f8.i8.e4.f.g ?_;refine zo h (fun _ h=> ?_) (fun _ h=> ?_)
     ·refine z.o.M.g ?_;exact zq [] hB h
     refine z.d7.q.n8.h6.a.n0.N.D.g ?_;exact zt [] hB h
    refine z.r.j7.k0.g ?_;refine zo h (fun _ h=> ?_) (fun _ h=> ?_)
    ·refine z.o.M.g ?_;exact zq [] hB h
    refine z.d7.q.n8.h6.a.n0.N.D.g ?_;exact zt [] hB h
   refine z.r.j7.k0.b7.i.d8.k.g ?_;refine zo h (fun _ h=> ?_) (fun _ h=> ?_)
   ·refine z.o.M.g ?_;exact zq [] hB h
   refine z.d7.q.n8.h6.a.n0.N.D.g ?_;exact zt [] hB h
  refine z.s.g ?_;exact zq [] hB h
 rcases q with q5|q6
 ·dsimp only [Sum.elim] at h ⊢
  refine z.o.g ?_;apply za [] hB h
 dsimp only [Sum.elim] at h ⊢
 refine z.H.f5.p.E.g ?_;apply za [] hB h
theorem utf8_ValidRune_ok {r_:Int}{r:Bool}(h:Jc r_=some r):XSpec Tryz.prog 277 [.pl (.int .i32 r_)] [] (B r) [] []:=by
 unfold Jc at h;refine zf Tryz.hU Tryz.func277 (fun _ _ _ hB=> ?_);refine z.B.c.Q.a9.b.g ?_;refine zb h (fun _ h=> ?_) (fun _ h=> ?_)
 ·refine z.i.f2.G.g ?_;refine zo h (fun _ h=> ?_) (fun _ h=> ?_)
  ·refine z.i4.g ?_;apply za [] hB h
  refine z.B.c.g ?_;refine zb h (fun _ h=> ?_) (fun _ h=> ?_)
  ·refine z.i.f2.G.g ?_;refine zo h (fun _ h=> ?_) (fun _ h=> ?_)
   ·refine z.i4.g ?_;apply za [] hB h
   refine z.U.k0.g ?_;apply za [] hB h
  refine z.U.k0.b7.i.d8.k.g ?_;apply za [] hB h
 refine z.B.c.b7.i.d8.k.g ?_;refine zb h (fun _ h=> ?_) (fun _ h=> ?_)
 ·refine z.i.f2.G.g ?_;refine zo h (fun _ h=> ?_) (fun _ h=> ?_)
  ·refine z.i4.g ?_;apply za [] hB h
  refine z.U.k0.g ?_;apply za [] hB h
 refine z.U.k0.b7.i.d8.k.g ?_;apply za [] hB h
theorem utf8_appendRuneNonASCII_ok {p:Str}{r_:Int}{r:Str}(h:ZA p r_=some r):XSpec Tryz.prog 285 [.sl 101 0 p.length,.pl (.int .i32 r_)] [(101,.row 5 1 0 (F cU p))] (.sl 101 0 r.length) [(101,.row 5 1 0 (F cU r))] [101]:=by
 unfold ZA at h;refine zf Tryz.hU Tryz.func285 (fun _ _ _ hB=> ?_);refine z.i.a8.c.Q.i.l7.b4.g ?_;refine zo h (fun _ h=> ?_) (fun _ h=> ?_)
 ·refine z.p.g ?_;refine Jg (r:=(r_.fdiv (2^6))) ?_;refine z.k1.f9.a.f9.g ?_;refine QY (e:=cU) [(u8 (bor 8 192 ((u8 (r_.fdiv (2^6))).toNat:Int))),(u8 (bor 8 128 ((u8 (band 8 ((u8 r_).toNat:Int) 63)).toNat:Int)))] ?_;refine Jm h (fun v1 _ h=> ?_);refine z.t.e.g ?_;apply za [(101,101)] hB h
 refine z.i.a8.a1.g ?_;refine zo h (fun _ h=> ?_) (fun _ h=> ?_)
 ·refine z.D.g ?_;refine zo h (fun _ h=> ?_) (fun _ h=> ?_)
  ·refine z.p.g ?_;refine Jg (r:=(r_.fdiv (2^12))) ?_;refine z.a.f9.g ?_;refine Jg (r:=(r_.fdiv (2^6))) ?_;refine z.k1.f9.a.k1.f9.g ?_;refine QY (e:=cU) [(u8 (bor 8 224 ((u8 (r_.fdiv (2^12))).toNat:Int))),(u8 (bor 8 128 ((u8 (band 8 ((u8 (r_.fdiv (2^6))).toNat:Int) 63)).toNat:Int))),(u8 (bor 8 128 ((u8 (band 8 ((u8 r_).toNat:Int) 63)).toNat:Int)))] ?_;refine Jm h (fun v2 _ h=> ?_);refine z.t.e.g ?_;apply za [(101,101)] hB h
  refine k_seq ?_;refine qW (fun q3=>(.normal,⟨[(0,.sl 101 0 p.length),(1,.pl (.int .i32 r_)),(50,B q3)],[(101,.row 5 1 0 (F cU p))],[]⟩)) h (fun t h=> ?_) (fun q3 h=> ?_)
  ·refine z.B.f.g ?_;refine zb h (fun _ h=> ?_) (fun _ h=> ?_)
   ·refine z.q.f2.G.g ?_;exact zm [(101,101)] hB h
   refine z.q.d8.k.g ?_;exact zm [(101,101)] hB h
  refine f_t ?_;refine zo h (fun _ h=> ?_) (fun _ h=> ?_)
  ·refine z.p.g ?_;refine Jg (r:=(r_.fdiv (2^18))) ?_;refine z.a.f9.g ?_;refine Jg (r:=(r_.fdiv (2^12))) ?_;refine z.a.k1.f9.g ?_;refine Jg (r:=(r_.fdiv (2^6))) ?_;refine z.k1.f9.a.k1.f9.g ?_;refine QY (e:=cU) [(u8 (bor 8 240 ((u8 (r_.fdiv (2^18))).toNat:Int))),(u8 (bor 8 128 ((u8 (band 8 ((u8 (r_.fdiv (2^12))).toNat:Int) 63)).toNat:Int))),(u8 (bor 8 128 ((u8 (band 8 ((u8 (r_.fdiv (2^6))).toNat:Int) 63)).toNat:Int))),(u8 (bor 8 128 ((u8 (band 8 ((u8 r_).toNat:Int) 63)).toNat:Int)))] ?_;refine Jm h (fun v4 _ h=> ?_);refine z.t.e.g ?_;apply za [(101,101)] hB h
  refine z.c.g ?_;refine QY (e:=cU) [239,191,189] ?_;refine Jm h (fun v5 _ h=> ?_);refine z.t.e.g ?_;apply za [(101,101)] hB h
 refine z.B.f.g ?_;refine zb h (fun _ h=> ?_) (fun _ h=> ?_)
 ·refine z.i.f2.G.g ?_;refine zo h (fun _ h=> ?_) (fun _ h=> ?_)
  ·refine z.p.g ?_;refine Jg (r:=(r_.fdiv (2^12))) ?_;refine z.a.f9.g ?_;refine Jg (r:=(r_.fdiv (2^6))) ?_;refine z.k1.f9.a.k1.f9.g ?_;refine QY (e:=cU) [(u8 (bor 8 224 ((u8 (r_.fdiv (2^12))).toNat:Int))),(u8 (bor 8 128 ((u8 (band 8 ((u8 (r_.fdiv (2^6))).toNat:Int) 63)).toNat:Int))),(u8 (bor 8 128 ((u8 (band 8 ((u8 r_).toNat:Int) 63)).toNat:Int)))] ?_;refine Jm h (fun v6 _ h=> ?_);refine z.t.e.g ?_;apply za [(101,101)] hB h
  refine k_seq ?_;refine qW (fun q7=>(.normal,⟨[(0,.sl 101 0 p.length),(1,.pl (.int .i32 r_)),(50,B q7)],[(101,.row 5 1 0 (F cU p))],[]⟩)) h (fun t h=> ?_) (fun q7 h=> ?_)
  ·refine z.B.f.g ?_;refine zb h (fun _ h=> ?_) (fun _ h=> ?_)
   ·refine z.q.f2.G.g ?_;exact zm [(101,101)] hB h
   refine z.q.d8.k.g ?_;exact zm [(101,101)] hB h
  refine f_t ?_;refine zo h (fun _ h=> ?_) (fun _ h=> ?_)
  ·refine z.p.g ?_;refine Jg (r:=(r_.fdiv (2^18))) ?_;refine z.a.f9.g ?_;refine Jg (r:=(r_.fdiv (2^12))) ?_;refine z.a.k1.f9.g ?_;refine Jg (r:=(r_.fdiv (2^6))) ?_;refine z.k1.f9.a.k1.f9.g ?_;refine QY (e:=cU) [(u8 (bor 8 240 ((u8 (r_.fdiv (2^18))).toNat:Int))),(u8 (bor 8 128 ((u8 (band 8 ((u8 (r_.fdiv (2^12))).toNat:Int) 63)).toNat:Int))),(u8 (bor 8 128 ((u8 (band 8 ((u8 (r_.fdiv (2^6))).toNat:Int) 63)).toNat:Int))),(u8 (bor 8 128 ((u8 (band 8 ((u8 r_).toNat:Int) 63)).toNat:Int)))] ?_;refine Jm h (fun v8 _ h=> ?_);refine z.t.e.g ?_;apply za [(101,101)] hB h
  refine z.c.g ?_;refine QY (e:=cU) [239,191,189] ?_;refine Jm h (fun v9 _ h=> ?_);refine z.t.e.g ?_;apply za [(101,101)] hB h
 refine z.a7.b7.i.d8.k.g ?_;refine qW (fun q10=>(.normal,⟨[(0,.sl 101 0 p.length),(1,.pl (.int .i32 r_)),(50,B q10)],[(101,.row 5 1 0 (F cU p))],[]⟩)) h (fun t h=> ?_) (fun q10 h=> ?_)
 ·refine z.B.f.g ?_;refine zb h (fun _ h=> ?_) (fun _ h=> ?_)
  ·refine z.q.f2.G.g ?_;exact zm [(101,101)] hB h
  refine z.q.d8.k.g ?_;exact zm [(101,101)] hB h
 refine f_t ?_;refine zo h (fun _ h=> ?_) (fun _ h=> ?_)
 ·refine z.p.g ?_;refine Jg (r:=(r_.fdiv (2^18))) ?_;refine z.a.f9.g ?_;refine Jg (r:=(r_.fdiv (2^12))) ?_;refine z.a.k1.f9.g ?_;refine Jg (r:=(r_.fdiv (2^6))) ?_;refine z.k1.f9.a.k1.f9.g ?_;refine QY (e:=cU) [(u8 (bor 8 240 ((u8 (r_.fdiv (2^18))).toNat:Int))),(u8 (bor 8 128 ((u8 (band 8 ((u8 (r_.fdiv (2^12))).toNat:Int) 63)).toNat:Int))),(u8 (bor 8 128 ((u8 (band 8 ((u8 (r_.fdiv (2^6))).toNat:Int) 63)).toNat:Int))),(u8 (bor 8 128 ((u8 (band 8 ((u8 r_).toNat:Int) 63)).toNat:Int)))] ?_;refine Jm h (fun v11 _ h=> ?_);refine z.t.e.g ?_;apply za [(101,101)] hB h
 refine z.c.g ?_;refine QY (e:=cU) [239,191,189] ?_;refine Jm h (fun v12 _ h=> ?_);refine z.t.e.g ?_;apply za [(101,101)] hB h
theorem utf8_AppendRune_ok {p:Str}{r_:Int}{r:Str}(h:Q1 p r_=some r):XSpec Tryz.prog 278 [.sl 101 0 p.length,.pl (.int .i32 r_)] [(101,.row 5 1 0 (F cU p))] (.sl 101 0 r.length) [(101,.row 5 1 0 (F cU r))] [101]:=by
 unfold Q1 at h;refine zf Tryz.hU Tryz.func278 (fun _ _ _ hB=> ?_);refine z.r.l7.e5.g ?_;refine zo h (fun _ h=> ?_) (fun _ h=> ?_)
 ·refine z.o9.p.g ?_;refine QY (e:=cU) [(u8 r_)] ?_;refine Jm h (fun v1 _ h=> ?_);refine z.i9.e.g ?_;apply za [(101,101)] hB h
 refine z.j0.g ?_;refine zj [] [101] h (fun _=>utf8_appendRuneNonASCII_ok) (fun v2 _ h=> ?_);refine z.e.g ?_;apply za [(101,101)] hB h
theorem utf_Bytes_ok {l:(List Int)}{r:Str×Bool}(h:utf_Bytes l=some r):XSpec Tryz.prog 268 [.vs l.length (F cR l)] [] (.tup [.sl 1 0 r.1.length,B r.2]) [(1,.row 5 1 0 (F cU r.1))] []:=by
 unfold utf_Bytes at h;refine zf Tryz.hU Tryz.func268 (fun _ _ _ hB=> ?_);refine z.d6.e5.i.b1.g ?_;refine k_nilrow (te:=5) (t:=4) 3004 1 ?_;refine zS (fun y1=>⟨[(4,.sl 3004 0 y1.2.length),(7,.vs l.length (F cR l)),(8,I (l.length:Int)),(9,I y1.1)],[(3004,.row 5 1 0 (F cU y1.2))],[]⟩) (Sum.elim (fun q5=>(.ret,⟨[(2,.pl (.slice none 0 0)),(3,B false)],[],[]⟩)) (fun q6=>(.exit 0,⟨[(4,.sl 3004 0 q6.length)],[(3004,.row 5 1 0 (F cU q6))],[]⟩))) [(3004,3004)] hB h (fun y1 t h=> ?_) (fun q h=> ?_)
 ·unfold utf_Bytes_b1 at h;refine z.c0.g ?_;refine zo h (fun _ h=> ?_) (fun _ h=> ?_)
  ·refine z.b.I.g ?_;refine Z5 h (fun v2 _ h=> ?_);refine z.O.j6.g ?_;refine zl h (fun _=>utf8_ValidRune_ok) (fun v3 _ h=> ?_);refine z.c7.g ?_;refine zo h (fun _ h=> ?_) (fun _ h=> ?_)
   ·refine z.o.M.g ?_;exact zq [] hB h
   refine z.N.D.g ?_;refine zj [(101,3004)] [3004] h (fun _=>utf8_AppendRune_ok) (fun v4 _ h=> ?_);refine z.d7.q.g ?_;exact zt [(3004,3004)] hB h
  refine z.s.g ?_;exact zq [(3004,3004)] hB h
 rcases q with q5|q6
 ·dsimp only [Sum.elim] at h ⊢
  refine z.o.g ?_;refine f_nilrow (te:=5) (t:=2) 3002 1 ?_;apply za [(3002,1)] hB h
 dsimp only [Sum.elim] at h ⊢
 refine z.H.c.E.g ?_;apply za [(3004,1)] hB h
theorem Jz {s:Str}{r:Str×Bool}(h:Qb s=some r):XSpec Tryz.prog 250 [S s] [] (.tup [S r.1,B r.2]) [] []:=by
 unfold Qb at h;refine zf Tryz.hU Tryz.func250 (fun _ _ _ hB=> ?_);refine z.C.b1.g ?_;refine zl h (fun _=>Je) (fun v1 _ h=> ?_);refine z.c7.O.b2.g ?_;refine zo h (fun _ h=> ?_) (fun _ h=> ?_)
 ·refine z.c.g ?_;refine zl h (fun _=>chars_named_ok) (fun v2 _ h=> ?_);refine z.f1.m3.g ?_;apply za [] hB h
 refine z.e5.D.g ?_;refine zl h (fun _=>Je) (fun v3 _ h=> ?_);refine z.d.C.b2.g ?_;refine zo h (fun _ h=> ?_) (fun _ h=> ?_)
 ·refine z.A.w.f.g ?_;refine zl h (fun _=>chars_number_ok) (fun v4 _ h=> ?_);refine z.h8.O.b2.g ?_;refine zb h (fun _ h=> ?_) (fun _ h=> ?_)
  ·refine z.M.f4.l.g ?_;apply za [] hB h
  refine z.h.g ?_;refine zl h (fun _=>utf_Xml_ok) (fun v5 _ h=> ?_);refine z.V.R.g ?_;refine zo h (fun _ h=> ?_) (fun _ h=> ?_)
  ·refine z.M.g ?_;apply za [] hB h
  refine z.v.g ?_;refine QY (e:=cR) [v4.1] ?_;refine l_frz 1044 ?_;refine zj [(1,104501)] [] h (fun _=>utf_Bytes_ok) (fun v6 _ h=> ?_);refine z.H.a.o3.C.b2.g ?_;apply za [] hB h
 refine z.j0.g ?_;refine zl h (fun _=>chars_number_ok) (fun v7 _ h=> ?_);refine z.h8.O.b2.g ?_;refine zb h (fun _ h=> ?_) (fun _ h=> ?_)
 ·refine z.M.f4.l.g ?_;apply za [] hB h
 refine z.h.g ?_;refine zl h (fun _=>utf_Xml_ok) (fun v8 _ h=> ?_);refine z.V.R.g ?_;refine zo h (fun _ h=> ?_) (fun _ h=> ?_)
 ·refine z.M.g ?_;apply za [] hB h
 refine z.v.g ?_;refine QY (e:=cR) [v7.1] ?_;refine l_frz 1044 ?_;refine zj [(1,104501)] [] h (fun _=>utf_Bytes_ok) (fun v9 _ h=> ?_);refine z.H.a.o3.C.b2.g ?_;apply za [] hB h
theorem chars_expand_ok {s:Str}{plain:(Str→Option Str)}{fk_plain:Nat}{fc_plain:List AV}(hf_plain: ∀ {x0:Str} {r:Str},plain x0=some r→XSpec Tryz.prog fk_plain ((S x0)::fc_plain) [] (S r) [] [])(hc_plain:AV.closedL fc_plain=true∧AV.onlyL [] fc_plain=true){r:Str×Bool}(h:chars_expand s plain=some r):XSpec Tryz.prog 218 [S s,.fn (.func fk_plain) [] fc_plain] [] (.tup [S r.1,B r.2]) [] []:=by
 unfold chars_expand at h;refine zf Tryz.hU Tryz.func218 (fun _ _ _ hB=> ?_);refine z.e2.b1.g ?_;refine qW (fun q3=>(.normal,⟨[(0,S s),(1,.fn (.func fk_plain) [] fc_plain),(22,B q3)],[],[]⟩)) h (fun t h=> ?_) (fun q3 h=> ?_)
 ·refine z.n3.f.g ?_;refine l_callB h (fun _=>utf_Text_ok) (fun v1 _ h=> ?_);refine z.h8.g ?_;refine zb h (fun _ h=> ?_) (fun _ h=> ?_)
  ·refine z.L.k.g ?_;exact zm [] hB h
  refine z.h.g ?_;refine zl h (fun _=>Zg) (fun v2 _ h=> ?_);refine l_to [] ⟨[(0,S s),(1,.fn (.func fk_plain) [] fc_plain),(19,B false),(21,B v2)],[],[]⟩ hB ?_;refine z.c8.g ?_;exact zm [] hB h
 refine f_t ?_;refine zo h (fun _ h=> ?_) (fun _ h=> ?_)
 ·refine z.M.g ?_;apply za [] hB h
 refine z.k8.d0.b.D.g ?_;refine k_npcell (b:=1006) (j:=0) 1006 0 ?_;refine zS (Sum.elim (fun (y4:Unit)=>⟨[(0,S s),(1,.fn (.func fk_plain) [] fc_plain),(6,.ptr 1006 0)],[(1006,.box 102 [.nptr true 1006 0,.pl (.slice none 0 0)])],[]⟩) (fun (y4:Str×Str)=>⟨[(0,S y4.1),(1,.fn (.func fk_plain) [] fc_plain),(6,.ptr 1006 0)],[(1006,.box 102 [.nptr false 1006 0,.sl 13061 0 y4.2.length]),(13061,.row 5 1 0 (F cU y4.2))],[13061]⟩)) (fun q19=>(.ret,⟨[(4,S q19.1),(5,B q19.2)],[],[13061]⟩)) [(1006,1006)] hB h (fun y4 t h=> ?_) (fun q19 h=> ?_)
 ·unfold qn at h
  rcases y4 with y4|y4
  ·dsimp only [Sum.elim] at h ⊢
   refine z.c.Q.g ?_;refine zl h (fun _=>qK) (fun v5 _ h=> ?_);refine z.A.w.w.j2.j8.g ?_;refine l_callF hc_plain h (fun _=>hf_plain) (fun v6 _ h=> ?_);refine l_nilcell (te:=5) (b1:=1006) (j:=1) 13061 1 ?_;refine zj [(4000101,1006),(4000102,13061)] [1006,13061] h (fun _=>zg) (fun v7 _ h=> ?_);refine z.c7.a1.d.g ?_;refine zo h (fun _ h=> ?_) (fun _ h=> ?_)
   ·refine z.b.g ?_;refine zj [(6000101,1006),(6000102,13061)] [1006,13061] h (fun _=>zK) (fun v8 _ h=> ?_);refine z.t.f1.g ?_;exact zq [] hB h
   refine z.v.g ?_;refine zl h (fun _=>qK) (fun v9 _ h=> ?_);refine z.C.w.w.j2.j8.g ?_;refine zl h (fun _=>Jz) (fun v10 _ h=> ?_);refine z.h8.O.b2.g ?_;refine zb h (fun _ h=> ?_) (fun _ h=> ?_)
   ·refine z.t.M.f4.k.g ?_;exact zq [] hB h
   refine z.V.i5.h.g ?_;refine zo h (fun _ h=> ?_) (fun _ h=> ?_)
   ·refine z.t.M.g ?_;exact zq [] hB h
   refine z.v.g ?_;refine zj [(4000101,1006),(4000102,13061)] [1006,13061] h (fun _=>zg) (fun v11 _ h=> ?_);refine z.c3.q.f.d.g ?_;exact zt [(1006,1006),(13061,13061)] hB h
  dsimp only [Sum.elim] at h ⊢
  refine z.c.Q.g ?_;refine zl h (fun _=>qK) (fun v12 _ h=> ?_);refine z.A.w.w.j2.j8.g ?_;refine l_callF hc_plain h (fun _=>hf_plain) (fun v13 _ h=> ?_);refine zj [(4000101,1006),(4000102,13061)] [1006,13061] h (fun _=>zg) (fun v14 _ h=> ?_);refine z.c7.a1.d.g ?_;refine zo h (fun _ h=> ?_) (fun _ h=> ?_)
  ·refine z.b.g ?_;refine zj [(6000101,1006),(6000102,13061)] [1006,13061] h (fun _=>zK) (fun v15 _ h=> ?_);refine z.t.f1.g ?_;exact zq [] hB h
  refine z.v.g ?_;refine zl h (fun _=>qK) (fun v16 _ h=> ?_);refine z.C.w.w.j2.j8.g ?_;refine zl h (fun _=>Jz) (fun v17 _ h=> ?_);refine z.h8.O.b2.g ?_;refine zb h (fun _ h=> ?_) (fun _ h=> ?_)
  ·refine z.t.M.f4.k.g ?_;exact zq [] hB h
  refine z.V.i5.h.g ?_;refine zo h (fun _ h=> ?_) (fun _ h=> ?_)
  ·refine z.t.M.g ?_;exact zq [] hB h
  refine z.v.g ?_;refine zj [(4000101,1006),(4000102,13061)] [1006,13061] h (fun _=>zg) (fun v18 _ h=> ?_);refine z.c3.q.f.d.g ?_;exact zt [(1006,1006),(13061,13061)] hB h
 refine f_br ?_;apply za [] hB h
theorem strings_NewReplacer_s1_ok {u1:(List Str)}{r:(List Str)}(h:qX u1=some r):XSpec Tryz.prog 247 [.sl 7000101 0 u1.length] [(7000101,.row 9 1 0 (F cS u1))] (.ptr 7000151 0) [(7000101,.row 9 1 0 (F cS u1)),(7000151,.box 260 [.pl (.int .u32 0),.pl (.int .i32 0),.pl (.int .u32 0),.pl .nilIface,.sl 7000152 0 r.length]),(7000152,.row 9 1 0 (F cS r))] []:=by
 unfold qX at h;refine zf Tryz.hU Tryz.func247 (fun _ _ _ hB=> ?_);refine z.r.q9.F.e5.g ?_;refine zo h (fun _ h=> ?_) (fun _ h=> ?_)
 ·refine k_reg ?_
  cases h
 refine z.v.g ?_;refine l_appc h (fun v1 _ h=> ?_);refine z.e.i6.k4.g ?_;apply za [(7000101,7000101),(1011,7000151),(1009,7000152)] hB h
theorem atomic_Bool_Load_s1_ok {u1:(List Str)}{r:Unit}(h:Qv u1=some r):XSpec Tryz.prog 274 [.ptr 11000101 0] [(11000101,.box 260 [.pl (.int .u32 0),.pl (.int .i32 0),.pl (.int .u32 0),.pl .nilIface,.sl 11000102 0 u1.length]),(11000102,.row 9 1 0 (F cS u1))] (B false) [(11000101,.box 260 [.pl (.int .u32 0),.pl (.int .i32 0),.pl (.int .u32 0),.pl .nilIface,.sl 11000102 0 u1.length]),(11000102,.row 9 1 0 (F cS u1))] []:=by
 unfold Qv at h;refine zf Tryz.hU Tryz.func274 (fun _ _ _ hB=> ?_);refine z.b6.b4.g ?_;refine l_aload Tryz.func279 ?_;refine z.e.a8.g ?_;apply za [(11000101,11000101),(11000102,11000102)] hB h
theorem sync_Mutex_Lock_s1_ok {u1:(List Str)}{r:Unit}(h:QO u1=some r):XSpec Tryz.prog 286 [.ptr 14000101 1] [(14000101,.box 260 [.pl (.int .u32 0),.pl (.int .i32 0),.pl (.int .u32 0),.pl .nilIface,.sl 14000102 0 u1.length]),(14000102,.row 9 1 0 (F cS u1))] (.tup []) [(14000101,.box 260 [.pl (.int .u32 0),.pl (.int .i32 1),.pl (.int .u32 0),.pl .nilIface,.sl 14000102 0 u1.length]),(14000102,.row 9 1 0 (F cS u1))] []:=by
 unfold QO at h;refine zf Tryz.hU Tryz.func286 (fun _ _ _ hB=> ?_);refine z.b.g ?_;refine l_nat (race0_spec Tryz.func292) ?_;refine z.b6.a1.d.g ?_;refine l_acas Tryz.func293 ?_;refine z.b.d4.a7.d4.d.g ?_;refine l_nat (race0_spec Tryz.func294) ?_;refine z.n6.f.d.g ?_;refine l_nat (race1_spec Tryz.func295 14000101 1) ?_;refine z.i9.l3.d.g ?_;apply za [(14000101,14000101),(14000102,14000102)] hB h
theorem sync_Mutex_Lock_2_s1_ok {u1:(List Str)}{r:Unit}(h:Qe u1=some r):XSpec Tryz.prog 280 [.ptr 13000101 1] [(13000101,.box 260 [.pl (.int .u32 0),.pl (.int .i32 0),.pl (.int .u32 0),.pl .nilIface,.sl 13000102 0 u1.length]),(13000102,.row 9 1 0 (F cS u1))] (.tup []) [(13000101,.box 260 [.pl (.int .u32 0),.pl (.int .i32 1),.pl (.int .u32 0),.pl .nilIface,.sl 13000102 0 u1.length]),(13000102,.row 9 1 0 (F cS u1))] []:=by
 unfold Qe at h;refine zf Tryz.hU Tryz.func280 (fun _ _ _ hB=> ?_);refine z.b6.f.g ?_;refine zj [(14000101,13000101),(14000102,13000102)] [13000101,13000102] h (fun _=>sync_Mutex_Lock_s1_ok) (fun v1 _ h=> ?_);refine k_nil ?_;apply za [(13000101,13000101),(13000102,13000102)] hB h
theorem atomic_Bool_Load_s2_ok {u1:(List Str)}{r:Unit}(h:Qs u1=some r):XSpec Tryz.prog 274 [.ptr 15000101 0] [(15000101,.box 260 [.pl (.int .u32 0),.pl (.int .i32 1),.pl (.int .u32 0),.pl .nilIface,.sl 15000102 0 u1.length]),(15000102,.row 9 1 0 (F cS u1))] (B false) [(15000101,.box 260 [.pl (.int .u32 0),.pl (.int .i32 1),.pl (.int .u32 0),.pl .nilIface,.sl 15000102 0 u1.length]),(15000102,.row 9 1 0 (F cS u1))] []:=by
 unfold Qs at h;refine zf Tryz.hU Tryz.func274 (fun _ _ _ hB=> ?_);refine z.b6.b4.g ?_;refine l_aload Tryz.func279 ?_;refine z.e.a8.g ?_;apply za [(15000101,15000101),(15000102,15000102)] hB h
theorem strings_Replacer_build_s1_ok {u1:(List Str)}{r:Str}(h:qC u1=some r):XSpec Tryz.prog 276 [.ptr 17000101 0] [(17000101,.box 260 [.pl (.int .u32 0),.pl (.int .i32 1),.pl (.int .u32 0),.pl .nilIface,.sl 17000102 0 u1.length]),(17000102,.row 9 1 0 (F cS u1))] (.ifc 283 (.ptr 17000151 0)) [(17000101,.box 260 [.pl (.int .u32 0),.pl (.int .i32 1),.pl (.int .u32 0),.pl .nilIface,.sl 17000102 0 u1.length]),(17000102,.row 9 1 0 (F cS u1)),(17000151,.row 282 1 0 (F cU r))] []:=by
 unfold qC at h;refine zf Tryz.hU Tryz.func276 (fun _ _ _ hB=> ?_);refine z.e2.b5.b4.g ?_;refine qW (fun q2=>(.normal,⟨[(3,.sl 17000102 0 u1.length),(28,B q2)],[(17000101,.box 260 [.pl (.int .u32 0),.pl (.int .i32 1),.pl (.int .u32 0),.pl .nilIface,.sl 17000102 0 u1.length]),(17000102,.row 9 1 0 (F cS u1))],[]⟩)) h (fun t h=> ?_) (fun q2 h=> ?_)
 ·refine z.B.F.f.g ?_;refine zb h (fun _ h=> ?_) (fun _ h=> ?_)
  ·refine z.h.g ?_;refine QD h (fun v1 ev1 h=> ?_);refine l_on ?_;refine QL ev1 ?_;refine z.L.b8.Y.b0.g ?_;exact zm [(17000101,17000101),(17000102,17000102)] hB h
  refine z.c8.f3.j.g ?_;exact zm [(17000101,17000101),(17000102,17000102)] hB h
 refine f_t ?_;refine zo h (fun _ h=> ?_) (fun _ h=> ?_)
 ·refine k_seq ?_;refine Z6 [] (.q 0 (.q 1 (.q 2 (.q 3 (.q 4 (.q 5 (.e 6 (.q 7 (.q 8 .done))))))))) hm ?_;refine z.x.g ?_
  cases h
 refine z.Q.i.b.a9.b.D.g ?_;refine zS (fun y5=>⟨[(3,.sl 17000102 0 u1.length),(4,B y5.1),(5,I y5.2)],[(17000101,.box 260 [.pl (.int .u32 0),.pl (.int .i32 1),.pl (.int .u32 0),.pl .nilIface,.sl 17000102 0 u1.length]),(17000102,.row 9 1 0 (F cS u1))],[]⟩) (fun q8=>(.exit 0,⟨[(3,.sl 17000102 0 u1.length),(4,B q8)],[(17000101,.box 260 [.pl (.int .u32 0),.pl (.int .i32 1),.pl (.int .u32 0),.pl .nilIface,.sl 17000102 0 u1.length]),(17000102,.row 9 1 0 (F cS u1))],[]⟩)) [(17000101,17000101),(17000102,17000102)] hB h (fun y5 t h=> ?_) (fun q8 h=> ?_)
 ·unfold ZG at h;refine z.r.F.j7.g ?_;refine zo h (fun _ h=> ?_) (fun _ h=> ?_)
  ·refine z.j7.I.g ?_;refine QD h (fun v6 ev6 h=> ?_);refine QL ev6 ?_;refine z.r.Y.g ?_;refine zo h (fun _ h=> ?_) (fun _ h=> ?_)
   ·refine z.c.g ?_
    cases h
   refine z.h6.j0.g ?_;refine QD h (fun v7 ev7 h=> ?_);refine QL ev7 ?_;refine z.r.Y.g ?_;refine zo h (fun _ h=> ?_) (fun _ h=> ?_)
   ·refine z.i8.f.f8.q.l2.g ?_;exact zt [(17000101,17000101),(17000102,17000102)] hB h
   refine z.i8.f.k0.g ?_;exact zt [(17000101,17000101),(17000102,17000102)] hB h
  refine z.s.g ?_;exact zq [(17000101,17000101),(17000102,17000102)] hB h
 refine z.d.a1.E.g ?_;refine zo h (fun _ h=> ?_) (fun _ h=> ?_)
 ·refine z.b.g ?_;refine l_anew 256 ?_;refine z.k8.a1.d.g ?_;refine zS (fun y9=>⟨[(3,.sl 17000102 0 u1.length),(6,.ptr 1006 0),(61,I y9.1)],[(17000101,.box 260 [.pl (.int .u32 0),.pl (.int .i32 1),.pl (.int .u32 0),.pl .nilIface,.sl 17000102 0 u1.length]),(17000102,.row 9 1 0 (F cS u1)),(1006,.row 282 1 0 (F cU y9.2))],[]⟩) (fun q12=>(.exit 2,⟨[(3,.sl 17000102 0 u1.length),(6,.ptr 1006 0)],[(17000101,.box 260 [.pl (.int .u32 0),.pl (.int .i32 1),.pl (.int .u32 0),.pl .nilIface,.sl 17000102 0 u1.length]),(17000102,.row 9 1 0 (F cS u1)),(1006,.row 282 1 0 (F cU q12))],[]⟩)) [(17000101,17000101),(17000102,17000102),(1006,1006)] hB h (fun y9 t h=> ?_) (fun q12 h=> ?_)
  ·unfold ZH at h;refine z.c0.g ?_;refine zo h (fun _ h=> ?_) (fun _ h=> ?_)
   ·refine z.o9.N.i.c.I.g ?_;refine l_aidx h (fun v10 ev10 h=> ?_);refine l_put0 ev10 h (fun v11 ev11 h=> ?_);refine z.d7.d5.g ?_;exact zt [(17000101,17000101),(17000102,17000102),(1006,1006)] hB h
   refine z.s.g ?_;exact zq [(17000101,17000101),(17000102,17000102),(1006,1006)] hB h
  refine z.Q.i.e4.F.a1.E.g ?_;refine zS (fun y13=>⟨[(3,.sl 17000102 0 u1.length),(6,.ptr 1006 0),(8,I y13.1)],[(17000101,.box 260 [.pl (.int .u32 0),.pl (.int .i32 1),.pl (.int .u32 0),.pl .nilIface,.sl 17000102 0 u1.length]),(17000102,.row 9 1 0 (F cS u1)),(1006,.row 282 1 0 (F cU y13.2))],[]⟩) (fun q20=>(.exit 4,⟨[(6,.ptr 1006 0)],[(17000101,.box 260 [.pl (.int .u32 0),.pl (.int .i32 1),.pl (.int .u32 0),.pl .nilIface,.sl 17000102 0 u1.length]),(17000102,.row 9 1 0 (F cS u1)),(1006,.row 282 1 0 (F cU q20))],[]⟩)) [(17000101,17000101),(17000102,17000102),(1006,1006)] hB h (fun y13 t h=> ?_) (fun q20 h=> ?_)
  ·unfold ZE at h;refine z.r.a1.g ?_;refine zo h (fun _ h=> ?_) (fun _ h=> ?_)
   ·refine z.p.I.g ?_;refine QD h (fun v14 ev14 h=> ?_);refine QL ev14 ?_;refine ZZ h (fun v15 _ h=> ?_);refine z.h6.A.g ?_;refine QD h (fun v16 ev16 h=> ?_);refine QL ev16 ?_;refine ZZ h (fun v17 _ h=> ?_);refine z.N.i.g ?_;refine l_aidx h (fun v18 ev18 h=> ?_);refine l_put0 ev18 h (fun v19 ev19 h=> ?_);refine z.q.e4.f.f8.d5.g ?_;exact zt [(17000101,17000101),(17000102,17000102),(1006,1006)] hB h
   refine z.s.g ?_;exact zq [(17000101,17000101),(17000102,17000102),(1006,1006)] hB h
  refine z.i9.e.r0.b.E.g ?_;apply za [(17000101,17000101),(17000102,17000102),(1006,17000151)] hB h
 refine z.r1.F.v.g ?_
 cases h
theorem strings_Replacer_buildOnce_s1_ok {u1:(List Str)}{r:Str}(h:qF u1=some r):XSpec Tryz.prog 265 [.ptr 16000101 0] [(16000101,.box 260 [.pl (.int .u32 0),.pl (.int .i32 1),.pl (.int .u32 0),.pl .nilIface,.sl 16000102 0 u1.length]),(16000102,.row 9 1 0 (F cS u1))] (.tup []) [(16000101,.box 260 [.pl (.int .u32 0),.pl (.int .i32 1),.pl (.int .u32 0),.ifc 283 (.ptr 16000151 0),.pl (.slice none 0 0)]),(16000102,.row 9 1 0 (F cS u1)),(16000151,.row 282 1 0 (F cU r))] []:=by
 unfold qF at h;refine zf Tryz.hU Tryz.func265 (fun _ _ _ hB=> ?_);refine z.p.g ?_;refine zj [(17000101,16000101),(17000102,16000102),(17000151,100451)] [16000101,16000102] h (fun _=>strings_Replacer_build_s1_ok) (fun v1 _ h=> ?_);refine z.d5.l9.b6.f.j9.g ?_;apply za [(16000101,16000101),(16000102,16000102),(100451,16000151)] hB h
theorem atomic_Bool_Store_s1_ok {u1:Str}{r:Unit}(h:Jb u1=some r):DSpec Tryz.prog 282 [.ptr 12000101 0,B true] [(12000101,.box 260 [.pl (.int .u32 0),.pl (.int .i32 1),.pl (.int .u32 0),.ifc 283 (.ptr 102051 0),.pl (.slice none 0 0)]),(102051,.row 282 1 0 (F cU u1))] (.tup []) [(12000101,.box 260 [.pl (.int .u32 1),.pl (.int .i32 1),.pl (.int .u32 0),.ifc 283 (.ptr 102051 0),.pl (.slice none 0 0)]),(102051,.row 282 1 0 (F cU u1))] []:=by
 unfold Jb at h;refine D_of_run Tryz.hU Tryz.func282 (fun _ _ _ hB=> ?_);refine Z6 [5] (.q 0 (.q 1 (.q 2 (.q 3 (.e 4 (.e 5 .done)))))) hm ?_;refine z.K.j1.d9.g ?_;refine n_callK (atomic_b32_ok (show atomic_b32 true=some 1 from rfl)) ?_;refine ge ?_;refine n_astore Tryz.func288 ?_;refine m_nil ?_;apply za [(12000101,12000101),(102051,102051)] hB h
theorem sync_Mutex_Unlock_s1_ok {u1:Str}{r:Unit}(h:Ji u1=some r):XSpec Tryz.prog 287 [.ptr 20000101 1] [(20000101,.box 260 [.pl (.int .u32 1),.pl (.int .i32 1),.pl (.int .u32 0),.ifc 283 (.ptr 20000102 0),.pl (.slice none 0 0)]),(20000102,.row 282 1 0 (F cU u1))] (.tup []) [(20000101,.box 260 [.pl (.int .u32 1),.pl (.int .i32 0),.pl (.int .u32 0),.ifc 283 (.ptr 20000102 0),.pl (.slice none 0 0)]),(20000102,.row 282 1 0 (F cU u1))] []:=by
 unfold Ji at h;refine zf Tryz.hU Tryz.func287 (fun _ _ _ hB=> ?_);refine z.n6.d1.b5.c.d4.a7.g ?_;refine l_nat (race1_spec Tryz.func297 20000101 1) ?_;refine z.l2.d.g ?_;refine l_nat (race0_spec Tryz.func292) ?_;refine z.b6.d1.g ?_;refine l_aadd Tryz.func298 ?_;refine z.l2.D.b7.r.O.g ?_;refine l_nat (race0_spec Tryz.func294) ?_;refine k_nil ?_;apply za [(20000101,20000101),(20000102,20000102)] hB h
theorem sync_Mutex_Unlock_2_s1_ok {u1:Str}{r:Unit}(h:QJ u1=some r):DSpec Tryz.prog 281 [.ptr 12000101 1] [(12000101,.box 260 [.pl (.int .u32 1),.pl (.int .i32 1),.pl (.int .u32 0),.ifc 283 (.ptr 102051 0),.pl (.slice none 0 0)]),(102051,.row 282 1 0 (F cU u1))] (.tup []) [(12000101,.box 260 [.pl (.int .u32 1),.pl (.int .i32 0),.pl (.int .u32 0),.ifc 283 (.ptr 102051 0),.pl (.slice none 0 0)]),(102051,.row 282 1 0 (F cU u1))] []:=by
 unfold QJ at h;refine D_of_run Tryz.hU Tryz.func281 (fun _ _ _ hB=> ?_);refine z.b6.f.g ?_;refine zj [(20000101,12000101),(20000102,102051)] [12000101,102051] h (fun _=>sync_Mutex_Unlock_s1_ok) (fun v1 _ h=> ?_);refine k_nil ?_;apply za [(12000101,12000101),(102051,102051)] hB h
theorem sync_Once_doSlow_s1_ok {u1:(List Str)}{r:Str}(h:Qt u1=some r):XSpec Tryz.prog 275 [.ptr 12000101 0,.fn (.func 265) [.ptr 12000101 0] []] [(12000101,.box 260 [.pl (.int .u32 0),.pl (.int .i32 0),.pl (.int .u32 0),.pl .nilIface,.sl 12000102 0 u1.length]),(12000102,.row 9 1 0 (F cS u1))] (.tup []) [(12000101,.box 260 [.pl (.int .u32 1),.pl (.int .i32 0),.pl (.int .u32 0),.ifc 283 (.ptr 12000151 0),.pl (.slice none 0 0)]),(12000102,.row 9 1 0 (F cS u1)),(12000151,.row 282 1 0 (F cU r))] []:=by
 unfold Qt at h;refine X_of_runD Tryz.hU Tryz.func275 (fun _ _ _ hB hA=> ?_);refine z.b6.c.g ?_;refine zj [(13000101,12000101),(13000102,12000102)] [12000101,12000102] h (fun _=>sync_Mutex_Lock_2_s1_ok) (fun v1 _ h=> ?_);refine z.b6.d1.g ?_;refine l_defer hA rfl rfl rfl rfl rfl (fun p1 hp1 hn1=> ?_);refine z.b6.d1.g ?_;refine zj [(15000101,12000101),(15000102,12000102)] [12000101,12000102] h (fun _=>atomic_Bool_Load_s2_ok) (fun v2 _ h=> ?_);refine z.b6.c.d4.c7.g ?_;refine l_defer hA rfl rfl rfl rfl rfl (fun p2 hp2 hn2=> ?_);refine z.f.d.g ?_;refine zj [(16000101,12000101),(16000102,12000102),(16000151,102051)] [12000101,12000102] h (fun _=>strings_Replacer_buildOnce_s1_ok) (fun v3 _ h=> ?_);refine z.r2.d5.g ?_;obtain ⟨v4,hv4,h⟩:=bind_some h;refine leavesD_cons (ks:=[.bool true]) [12000101,102051] hp2 hn2 (atomic_Bool_Store_s1_ok hv4) ?_;obtain ⟨v5,hv5,h⟩:=bind_some h;refine leavesD_cons (ks:=[]) [12000101,102051] hp1 hn1 (sync_Mutex_Unlock_2_s1_ok hv5) ?_
 cases h
 exact leavesD_nil [(12000101,12000101),(12000102,12000102),(102051,12000151)] hB
theorem sync_Once_Do_s1_ok {u1:(List Str)}{r:Str}(h:Q0 u1=some r):XSpec Tryz.prog 264 [.ptr 10000101 0,.fn (.func 265) [.ptr 10000101 0] []] [(10000101,.box 260 [.pl (.int .u32 0),.pl (.int .i32 0),.pl (.int .u32 0),.pl .nilIface,.sl 10000102 0 u1.length]),(10000102,.row 9 1 0 (F cS u1))] (.tup []) [(10000101,.box 260 [.pl (.int .u32 1),.pl (.int .i32 0),.pl (.int .u32 0),.ifc 283 (.ptr 10000151 0),.pl (.slice none 0 0)]),(10000102,.row 9 1 0 (F cS u1)),(10000151,.row 282 1 0 (F cU r))] []:=by
 unfold Q0 at h;refine zf Tryz.hU Tryz.func264 (fun _ _ _ hB=> ?_);refine z.b6.c.g ?_;refine zj [(11000101,10000101),(11000102,10000102)] [10000101,10000102] h (fun _=>atomic_Bool_Load_s1_ok) (fun v1 _ h=> ?_);refine z.N.d4.c7.g ?_;refine zj [(12000101,10000101),(12000102,10000102),(12000151,101151)] [10000101,10000102] h (fun _=>sync_Once_doSlow_s1_ok) (fun v2 _ h=> ?_);refine k_nil ?_;apply za [(10000101,10000101),(10000102,10000102),(101151,10000151)] hB h
theorem ZT {u1:Str}{u2:Str}{r:Str}(h:zR u1 u2=some r):XSpec Tryz.prog 331 [.ptr 21000101 0,S u1] [(21000101,.row 282 1 0 (F cU u2))] (S r) [(21000101,.row 282 1 0 (F cU u2))] []:=by
 unfold zR at h;refine zf Tryz.hU Tryz.func331 (fun _ _ _ hB=> ?_);refine z.Q.i.b.a9.b.i.b.g ?_;refine zS (Sum.elim (fun (y1:Int)=>⟨[(0,.ptr 21000101 0),(1,S u1),(5,.pl (.slice none 0 0)),(6,I y1)],[(21000101,.row 282 1 0 (F cU u2))],[]⟩) (fun (y1:Int×Str)=>⟨[(0,.ptr 21000101 0),(1,S u1),(5,.sl 1027 0 y1.2.length),(6,I y1.1)],[(21000101,.row 282 1 0 (F cU u2)),(1027,.row 5 1 0 (F cU y1.2))],[]⟩)) (Sum.elim (fun q13=>(.exit 0,⟨[(1,S u1),(5,.pl (.slice none 0 0))],[(21000101,.row 282 1 0 (F cU u2))],[]⟩)) (fun q14=>(.exit 0,⟨[(1,S u1),(5,.sl 1027 0 q14.length)],[(21000101,.row 282 1 0 (F cU u2)),(1027,.row 5 1 0 (F cU q14))],[]⟩))) [(21000101,21000101)] hB h (fun y1 t h=> ?_) (fun q h=> ?_)
 ·unfold zk at h
  rcases y1 with y1|y1
  ·dsimp only [Sum.elim] at h ⊢
   refine z.r.Y.j7.g ?_;refine zo h (fun _ h=> ?_) (fun _ h=> ?_)
   ·refine z.p.I.g ?_;refine ZZ h (fun v2 _ h=> ?_);refine z.m0.A.g ?_;refine l_aidx h (fun v3 ev3 h=> ?_);refine QL ev3 ?_;refine z.r.a.g ?_;refine zo h (fun _ h=> ?_) (fun _ h=> ?_)
    ·refine z.m0.a.a.N.i.n3.f.d4.d.p9.a1.g ?_;refine l_aidx h (fun v4 ev4 h=> ?_);refine QL ev4 ?_;refine QD h (fun v5 ev5 h=> ?_);refine l_put0 ev5 h (fun v6 ev6 h=> ?_);refine z.i8.f.f8.d5.g ?_;refine JD 5 v6.length ?_;exact zt [(21000101,21000101),(1027,1027)] hB h
    refine z.i8.f.k0.g ?_;exact zt [(21000101,21000101)] hB h
   refine z.s.g ?_;exact zq [(21000101,21000101)] hB h
  dsimp only [Sum.elim] at h ⊢
  refine z.r.Y.j7.g ?_;refine zo h (fun _ h=> ?_) (fun _ h=> ?_)
  ·refine z.p.I.g ?_;refine ZZ h (fun v7 _ h=> ?_);refine z.m0.A.g ?_;refine l_aidx h (fun v8 ev8 h=> ?_);refine QL ev8 ?_;refine z.r.a.g ?_;refine zo h (fun _ h=> ?_) (fun _ h=> ?_)
   ·refine z.a1.g ?_;refine l_nenil h (fun v9 _ h=> ?_);refine z.m0.a.a.N.D.b7.d.g ?_;refine l_aidx h (fun v10 ev10 h=> ?_);refine QL ev10 ?_;refine QD h (fun v11 ev11 h=> ?_);refine l_put0 ev11 h (fun v12 ev12 h=> ?_);refine z.i8.f.f8.d5.g ?_;refine JD 5 v12.length ?_;exact zt [(21000101,21000101),(1027,1027)] hB h
   refine z.i8.f.k0.g ?_;exact zt [(21000101,21000101),(1027,1027)] hB h
  refine z.s.g ?_;exact zq [(21000101,21000101),(1027,1027)] hB h
 rcases q with q13|q14
 ·dsimp only [Sum.elim] at h ⊢
  refine z.i9.e.c.d4.d.p9.a1.E.g ?_;apply za [(21000101,21000101)] hB h
 dsimp only [Sum.elim] at h ⊢
 refine z.a1.E.g ?_;refine l_nenil h (fun v15 _ h=> ?_);refine z.e.o3.v.b7.d.g ?_;apply za [(21000101,21000101)] hB h
theorem strings_Replacer_Replace_s1_ok {u1:Str}{u2:(List Str)}{r:Str×Str}(h:qu u1 u2=some r):XSpec Tryz.prog 248 [.ptr 9000101 0,S u1] [(9000101,.box 260 [.pl (.int .u32 0),.pl (.int .i32 0),.pl (.int .u32 0),.pl .nilIface,.sl 9000102 0 u2.length]),(9000102,.row 9 1 0 (F cS u2))] (S r.1) [(9000101,.box 260 [.pl (.int .u32 1),.pl (.int .i32 0),.pl (.int .u32 0),.ifc 283 (.ptr 9000151 0),.pl (.slice none 0 0)]),(9000102,.row 9 1 0 (F cS u2)),(9000151,.row 282 1 0 (F cU r.2))] []:=by
 unfold qu at h;refine zf Tryz.hU Tryz.func248 (fun _ _ _ hB=> ?_);refine z.p0.a.b6.b4.g ?_;refine zj [(10000101,9000101),(10000102,9000102),(10000151,101051)] [9000101,9000102] h (fun _=>sync_Once_Do_s1_ok) (fun v1 _ h=> ?_);refine z.f6.d1.g ?_;refine l_callXI [(21000101,101051)] [101051] h (fun _=>ZT) (fun v2 _ h=> ?_);refine z.e.g ?_;apply za [(9000101,9000101),(9000102,9000102),(101051,9000151)] hB h
theorem atomic_Bool_Load_s3_ok {u1:Str}{r:Unit}(h:Qu u1=some r):XSpec Tryz.prog 274 [.ptr 24000101 0] [(24000101,.box 260 [.pl (.int .u32 1),.pl (.int .i32 0),.pl (.int .u32 0),.ifc 283 (.ptr 24000102 0),.pl (.slice none 0 0)]),(24000102,.row 282 1 0 (F cU u1))] (B true) [(24000101,.box 260 [.pl (.int .u32 1),.pl (.int .i32 0),.pl (.int .u32 0),.ifc 283 (.ptr 24000102 0),.pl (.slice none 0 0)]),(24000102,.row 282 1 0 (F cU u1))] []:=by
 unfold Qu at h;refine zf Tryz.hU Tryz.func274 (fun _ _ _ hB=> ?_);refine z.b6.b4.g ?_;refine l_aload Tryz.func279 ?_;refine z.e.a8.g ?_;apply za [(24000101,24000101),(24000102,24000102)] hB h
theorem sync_Once_Do_s2_ok {u1:Str}{r:Unit}(h:JC u1=some r):XSpec Tryz.prog 264 [.ptr 23000101 0,.fn (.func 265) [.ptr 23000101 0] []] [(23000101,.box 260 [.pl (.int .u32 1),.pl (.int .i32 0),.pl (.int .u32 0),.ifc 283 (.ptr 23000102 0),.pl (.slice none 0 0)]),(23000102,.row 282 1 0 (F cU u1))] (.tup []) [(23000101,.box 260 [.pl (.int .u32 1),.pl (.int .i32 0),.pl (.int .u32 0),.ifc 283 (.ptr 23000102 0),.pl (.slice none 0 0)]),(23000102,.row 282 1 0 (F cU u1))] []:=by
 unfold JC at h;refine zf Tryz.hU Tryz.func264 (fun _ _ _ hB=> ?_);refine z.b6.c.g ?_;refine zj [(24000101,23000101),(24000102,23000102)] [23000101,23000102] h (fun _=>atomic_Bool_Load_s3_ok) (fun v1 _ h=> ?_);refine z.k5.b7.c7.g ?_;apply za [(23000101,23000101),(23000102,23000102)] hB h
theorem strings_Replacer_Replace_s2_ok {u1:Str}{u2:Str}{r:Str}(h:qf u1 u2=some r):XSpec Tryz.prog 248 [.ptr 22000101 0,S u1] [(22000101,.box 260 [.pl (.int .u32 1),.pl (.int .i32 0),.pl (.int .u32 0),.ifc 283 (.ptr 22000102 0),.pl (.slice none 0 0)]),(22000102,.row 282 1 0 (F cU u2))] (S r) [(22000101,.box 260 [.pl (.int .u32 1),.pl (.int .i32 0),.pl (.int .u32 0),.ifc 283 (.ptr 22000102 0),.pl (.slice none 0 0)]),(22000102,.row 282 1 0 (F cU u2))] []:=by
 unfold qf at h;refine zf Tryz.hU Tryz.func248 (fun _ _ _ hB=> ?_);refine z.p0.a.b6.b4.g ?_;refine zj [(23000101,22000101),(23000102,22000102)] [22000101,22000102] h (fun _=>sync_Once_Do_s2_ok) (fun v1 _ h=> ?_);refine z.f6.d1.g ?_;refine l_callXI [(21000101,22000102)] [22000102] h (fun _=>ZT) (fun v2 _ h=> ?_);refine z.e.g ?_;apply za [(22000101,22000101),(22000102,22000102)] hB h
theorem chars_expand_s1_ok {u1:Str}{u2:(List Str)}{r:Str×Bool}(h:JA u1 u2=some r):XSpec Tryz.prog 218 [S u1,.fn (.func 248) [.ptr 8000101 0] []] [(8000101,.box 260 [.pl (.int .u32 0),.pl (.int .i32 0),.pl (.int .u32 0),.pl .nilIface,.sl 8000102 0 u2.length]),(8000102,.row 9 1 0 (F cS u2))] (.tup [S r.1,B r.2]) [(8000102,.row 9 1 0 (F cS u2))] [8000101]:=by
 unfold JA at h;refine zf Tryz.hU Tryz.func218 (fun _ _ _ hB=> ?_);refine z.e2.b1.g ?_;refine qW (fun q3=>(.normal,⟨[(0,S u1),(1,.fn (.func 248) [.ptr 8000101 0] []),(22,B q3)],[(8000101,.box 260 [.pl (.int .u32 0),.pl (.int .i32 0),.pl (.int .u32 0),.pl .nilIface,.sl 8000102 0 u2.length]),(8000102,.row 9 1 0 (F cS u2))],[]⟩)) h (fun t h=> ?_) (fun q3 h=> ?_)
 ·refine z.n3.f.g ?_;refine l_callB h (fun _=>utf_Text_ok) (fun v1 _ h=> ?_);refine z.h8.g ?_;refine zb h (fun _ h=> ?_) (fun _ h=> ?_)
  ·refine z.L.k.g ?_;exact zm [(8000101,8000101),(8000102,8000102)] hB h
  refine z.h.g ?_;refine zl h (fun _=>Zg) (fun v2 _ h=> ?_);refine l_to [(8000101,8000101),(8000102,8000102)] ⟨[(0,S u1),(1,.fn (.func 248) [.ptr 8000101 0] []),(19,B false),(21,B v2)],[(8000101,.box 260 [.pl (.int .u32 0),.pl (.int .i32 0),.pl (.int .u32 0),.pl .nilIface,.sl 8000102 0 u2.length]),(8000102,.row 9 1 0 (F cS u2))],[]⟩ hB ?_;refine z.c8.g ?_;exact zm [(8000101,8000101),(8000102,8000102)] hB h
 refine f_t ?_;refine zo h (fun _ h=> ?_) (fun _ h=> ?_)
 ·refine z.M.g ?_;apply za [(8000102,8000102)] hB h
 refine z.k8.d0.b.D.g ?_;refine k_npcell (b:=1006) (j:=0) 1006 0 ?_;refine zS (Sum.elim (fun (y4:Unit)=>⟨[(0,S u1),(1,.fn (.func 248) [.ptr 8000101 0] []),(6,.ptr 1006 0)],[(8000101,.box 260 [.pl (.int .u32 0),.pl (.int .i32 0),.pl (.int .u32 0),.pl .nilIface,.sl 8000102 0 u2.length]),(8000102,.row 9 1 0 (F cS u2)),(1006,.box 102 [.nptr true 1006 0,.pl (.slice none 0 0)])],[]⟩) (fun (y4:Str×Str×Str)=>⟨[(0,S y4.1),(1,.fn (.func 248) [.ptr 8000101 0] []),(6,.ptr 1006 0)],[(8000101,.box 260 [.pl (.int .u32 1),.pl (.int .i32 0),.pl (.int .u32 0),.ifc 283 (.ptr 103151 0),.pl (.slice none 0 0)]),(8000102,.row 9 1 0 (F cS u2)),(1006,.box 102 [.nptr false 1006 0,.sl 13061 0 y4.2.2.length]),(103151,.row 282 1 0 (F cU y4.2.1)),(13061,.row 5 1 0 (F cU y4.2.2))],[13061]⟩)) (fun q19=>(.ret,⟨[(4,S q19.1),(5,B q19.2.1)],[(8000101,.box 260 [.pl (.int .u32 1),.pl (.int .i32 0),.pl (.int .u32 0),.ifc 283 (.ptr 103151 0),.pl (.slice none 0 0)]),(8000102,.row 9 1 0 (F cS u2)),(103151,.row 282 1 0 (F cU q19.2.2))],[13061]⟩)) [(8000101,8000101),(8000102,8000102),(1006,1006)] hB h (fun y4 t h=> ?_) (fun q19 h=> ?_)
 ·unfold z6 at h
  rcases y4 with y4|y4
  ·dsimp only [Sum.elim] at h ⊢
   refine z.c.Q.g ?_;refine zl h (fun _=>qK) (fun v5 _ h=> ?_);refine z.A.w.w.j2.j8.g ?_;refine zj [(9000101,8000101),(9000102,8000102),(9000151,103151)] [8000101,8000102] h (fun _=>strings_Replacer_Replace_s1_ok) (fun v6 _ h=> ?_);refine l_nilcell (te:=5) (b1:=1006) (j:=1) 13061 1 ?_;refine zj [(4000101,1006),(4000102,13061)] [1006,13061] h (fun _=>zg) (fun v7 _ h=> ?_);refine z.c7.a1.d.g ?_;refine zo h (fun _ h=> ?_) (fun _ h=> ?_)
   ·refine z.b.g ?_;refine zj [(6000101,1006),(6000102,13061)] [1006,13061] h (fun _=>zK) (fun v8 _ h=> ?_);refine z.t.f1.g ?_;exact zq [(8000101,8000101),(8000102,8000102),(103151,103151)] hB h
   refine z.v.g ?_;refine zl h (fun _=>qK) (fun v9 _ h=> ?_);refine z.C.w.w.j2.j8.g ?_;refine zl h (fun _=>Jz) (fun v10 _ h=> ?_);refine z.h8.O.b2.g ?_;refine zb h (fun _ h=> ?_) (fun _ h=> ?_)
   ·refine z.t.M.f4.k.g ?_;exact zq [(8000101,8000101),(8000102,8000102),(103151,103151)] hB h
   refine z.V.i5.h.g ?_;refine zo h (fun _ h=> ?_) (fun _ h=> ?_)
   ·refine z.t.M.g ?_;exact zq [(8000101,8000101),(8000102,8000102),(103151,103151)] hB h
   refine z.v.g ?_;refine zj [(4000101,1006),(4000102,13061)] [1006,13061] h (fun _=>zg) (fun v11 _ h=> ?_);refine z.c3.q.f.d.g ?_;exact zt [(8000101,8000101),(8000102,8000102),(1006,1006),(103151,103151),(13061,13061)] hB h
  dsimp only [Sum.elim] at h ⊢
  refine z.c.Q.g ?_;refine zl h (fun _=>qK) (fun v12 _ h=> ?_);refine z.A.w.w.j2.j8.g ?_;refine zj [(22000101,8000101),(22000102,103151)] [8000101,103151] h (fun _=>strings_Replacer_Replace_s2_ok) (fun v13 _ h=> ?_);refine zj [(4000101,1006),(4000102,13061)] [1006,13061] h (fun _=>zg) (fun v14 _ h=> ?_);refine z.c7.a1.d.g ?_;refine zo h (fun _ h=> ?_) (fun _ h=> ?_)
  ·refine z.b.g ?_;refine zj [(6000101,1006),(6000102,13061)] [1006,13061] h (fun _=>zK) (fun v15 _ h=> ?_);refine z.t.f1.g ?_;exact zq [(8000101,8000101),(8000102,8000102),(103151,103151)] hB h
  refine z.v.g ?_;refine zl h (fun _=>qK) (fun v16 _ h=> ?_);refine z.C.w.w.j2.j8.g ?_;refine zl h (fun _=>Jz) (fun v17 _ h=> ?_);refine z.h8.O.b2.g ?_;refine zb h (fun _ h=> ?_) (fun _ h=> ?_)
  ·refine z.t.M.f4.k.g ?_;exact zq [(8000101,8000101),(8000102,8000102),(103151,103151)] hB h
  refine z.V.i5.h.g ?_;refine zo h (fun _ h=> ?_) (fun _ h=> ?_)
  ·refine z.t.M.g ?_;exact zq [(8000101,8000101),(8000102,8000102),(103151,103151)] hB h
  refine z.v.g ?_;refine zj [(4000101,1006),(4000102,13061)] [1006,13061] h (fun _=>zg) (fun v18 _ h=> ?_);refine z.c3.q.f.d.g ?_;exact zt [(8000101,8000101),(8000102,8000102),(1006,1006),(103151,103151),(13061,13061)] hB h
 refine f_br ?_;refine f_nilcell (te:=9) (b1:=8000101) (j:=4) 80004014 1 ?_;apply za [(8000102,8000102)] hB h
theorem chars_Value_ok {s:Str}{r:Str×Bool}(h:chars_Value s=some r):XSpec Tryz.prog 216 [S s] [] (.tup [S r.1,B r.2]) [] []:=by
 unfold chars_Value at h;refine zf Tryz.hU Tryz.func216 (fun _ _ _ hB=> ?_);refine z.b.i.b1.g ?_;refine QY (e:=cS) [[9],[32],[10],[32],[13],[32]] ?_;refine zj [(7000101,1005),(7000151,100651),(7000152,100652)] [1005] h (fun _=>strings_NewReplacer_s1_ok) (fun v1 _ h=> ?_);refine z.p0.A.g ?_;refine zj [(8000101,100651),(8000102,100652)] [100651,100652] h (fun _=>chars_expand_s1_ok) (fun v2 _ h=> ?_);refine z.H.m3.g ?_;apply za [] hB h
theorem stringslite_IndexByte_ok {s:Str}{c:UInt8}{r:Int}(h:Q4 s c=some r):XSpec Tryz.prog 217 [S s,U c] [] (I r) [] []:=by
 unfold Q4 at h;refine zf Tryz.hU Tryz.func217 (fun _ _ _ hB=> ?_);refine z.A.b.g ?_;refine l_nat (indexByte_spec Tryz.func249 s c) ?_;refine z.e.g ?_;apply za [] hB h
theorem strings_IndexByte_ok {s:Str}{c:UInt8}{r:Int}(h:Q5 s c=some r):XSpec Tryz.prog 168 [S s,U c] [] (I r) [] []:=by
 unfold Q5 at h;refine zf Tryz.hU Tryz.func168 (fun _ _ _ hB=> ?_);refine z.A.b.g ?_;refine zl h (fun _=>stringslite_IndexByte_ok) (fun v1 _ h=> ?_);refine z.e.g ?_;apply za [] hB h
theorem name_Trim_ok {s:Str}{r:Str}(h:name_Trim s=some r):XSpec Tryz.prog 169 [S s] [] (S r) [] []:=by
 unfold name_Trim at h;refine zf Tryz.hU Tryz.func169 (fun _ _ _ hB=> ?_);refine z.Q.a9.b.g ?_;refine zS (fun y1=>⟨[(0,S y1)],[],[]⟩) (fun q5=>(.exit 0,⟨[(0,S q5)],[],[]⟩)) [] hB h (fun y1 t h=> ?_) (fun q5 h=> ?_)
 ·unfold name_Trim_b1 at h;refine z.a.f5.a1.g ?_;refine zb h (fun _ h=> ?_) (fun _ h=> ?_)
  ·refine z.h.g ?_;refine ZZ h (fun v2 _ h=> ?_);refine l_on ?_;refine zl h (fun _=>Jx) (fun v3 _ h=> ?_);refine z.l8.g ?_;refine zo h (fun _ h=> ?_) (fun _ h=> ?_)
   ·refine z.f.Q.D.g ?_;refine Za h (fun v4 _ h=> ?_);refine z.c3.q.g ?_;exact zt [] hB h
   refine z.s.g ?_;exact zq [] hB h
  refine z.s.b7.V.l.g ?_;exact zq [] hB h
 refine z.Q.a7.E.g ?_;refine zS (fun y6=>⟨[(0,S y6)],[],[]⟩) (fun q10=>(.exit 2,⟨[(0,S q10)],[],[]⟩)) [] hB h (fun y6 t h=> ?_) (fun q10 h=> ?_)
 ·unfold name_Trim_b2 at h;refine z.a.f5.a1.g ?_;refine zb h (fun _ h=> ?_) (fun _ h=> ?_)
  ·refine z.b0.e4.b0.Y.h7.g ?_;refine ZZ h (fun v7 _ h=> ?_);refine l_on ?_;refine zl h (fun _=>Jx) (fun v8 _ h=> ?_);refine z.l8.g ?_;refine zo h (fun _ h=> ?_) (fun _ h=> ?_)
   ·refine z.e4.Y.N.Q.D.g ?_;refine Za h (fun v9 _ h=> ?_);refine z.c3.q.g ?_;exact zt [] hB h
   refine z.s.g ?_;exact zq [] hB h
  refine z.s.b7.V.i1.g ?_;exact zq [] hB h
 refine z.e.c.E.g ?_;apply za [] hB h
theorem chars_Content_c1_ok {x:Str}{r:Str}(h:Ju x=some r):XSpec Tryz.prog 219 [S x] [] (S r) [] []:=by
 unfold Ju at h;refine zf Tryz.hU Tryz.func219 (fun _ _ _ hB=> ?_);refine z.e.b4.g ?_;apply za [] hB h
theorem chars_Content_ok {s:Str}{r:Str×Bool}(h:Qm s=some r):XSpec Tryz.prog 170 [S s] [] (.tup [S r.1,B r.2]) [] []:=by
 unfold Qm at h;refine zf Tryz.hU Tryz.func170 (fun _ _ _ hB=> ?_);refine z.O.b1.g ?_;refine zl h (fun _=>Zg) (fun v1 _ h=> ?_);refine z.d.g ?_;refine zo h (fun _ h=> ?_) (fun _ h=> ?_)
 ·refine z.M.g ?_;apply za [] hB h
 refine z.v.g ?_;refine zl h (fun _=>chars_expand_ok (fun h=>chars_Content_c1_ok h) ⟨rfl,rfl⟩) (fun v2 _ h=> ?_);refine z.H.m3.g ?_;apply za [] hB h
theorem doc_bare_ok {x:zd}{r:Bool}(h:doc_bare x=some r):XSpec Tryz.prog 171 [.agg (zi x)] [] (B r) [] []:=by
 unfold doc_bare at h;refine zf Tryz.hU Tryz.func171 (fun _ _ _ hB=> ?_);refine z.a.c2.e6.i.i6.b.g ?_;refine zb h (fun _ h=> ?_) (fun _ h=> ?_)
 ·refine z.a3.h0.g ?_;refine zb h (fun _ h=> ?_) (fun _ h=> ?_)
  ·refine z.a3.b8.F.u.g ?_;refine zb h (fun _ h=> ?_) (fun _ h=> ?_)
   ·refine z.X.b8.F.u.g ?_;apply za [] hB h
   refine z.c1.j.g ?_;apply za [] hB h
  refine z.c1.h1.j.g ?_;apply za [] hB h
 refine z.c1.h1.h1.l.g ?_;apply za [] hB h
theorem doc_stands_ok {l:(List zd)}{n:Int}{r:Bool}(h:JE l n=some r):XSpec Tryz.prog 172 [.vs l.length (F zi l),I n] [] (B r) [] []:=by
 unfold JE at h;refine zf Tryz.hU Tryz.func172 (fun _ _ _ hB=> ?_);refine z.Q.i.e4.e5.g ?_;refine zS (fun y1=>⟨[(0,.vs l.length (F zi l)),(1,I n),(5,I y1)],[],[]⟩) (Sum.elim (fun q6=>(.ret,⟨[(4,B q6)],[],[]⟩)) (fun q7=>(.exit 0,⟨[],[],[]⟩))) [] hB h (fun y1 t h=> ?_) (fun q h=> ?_)
 ·unfold Zu at h;refine z.r.a1.g ?_;refine zo h (fun _ h=> ?_) (fun _ h=> ?_)
  ·refine z.a.p.I.g ?_;refine Z5 h (fun v2 _ h=> ?_);refine z.r.T.g ?_;refine zo h (fun _ h=> ?_) (fun _ h=> ?_)
   ·refine z.p.g ?_;refine Z5 h (fun v3 _ h=> ?_);refine z.B.T.g ?_;refine zb h (fun _ h=> ?_) (fun _ h=> ?_)
    ·refine z.o.X.i1.g ?_;exact zq [] hB h
    refine z.h7.g ?_;refine Z5 h (fun v4 _ h=> ?_);refine z.k2.a8.u.g ?_;exact zq [] hB h
   refine z.N.k0.g ?_;refine Z5 h (fun v5 _ h=> ?_);refine z.q.T.g ?_;exact zt [] hB h
  refine z.s.g ?_;exact zq [] hB h
 rcases q with q6|q7
 ·dsimp only [Sum.elim] at h ⊢
  refine z.o.g ?_;apply za [] hB h
 dsimp only [Sum.elim] at h ⊢
 refine z.U.E.g ?_;apply za [] hB h
theorem doc_declared_c1_ok {o:zz}{p1:zz}{r:Bool}(h:JB o p1=some r):XSpec Tryz.prog 252 [.agg (zB o),.vptr (zB p1)] [] (B r) [] []:=by
 unfold JB at h;refine zf Tryz.hU Tryz.func252 (fun _ _ _ hB=> ?_);refine z.e.c2.T.e6.i.i6.b.g ?_;apply za [] hB h
theorem slices_IndexFunc_Decl_ok {s:(List zz)}{f:(zz→Option Bool)}{fk_f:Nat}{fc_f:List AV}(hf_f: ∀ {x0:zz} {r:Bool},f x0=some r→XSpec Tryz.prog fk_f ((.agg (zB x0))::fc_f) [] (B r) [] [])(hc_f:AV.closedL fc_f=true∧AV.onlyL [] fc_f=true){r:Int}(h:Z1 s f=some r):XSpec Tryz.prog 269 [.vs s.length (F zB s),.fn (.func fk_f) [] fc_f] [] (I r) [] []:=by
 unfold Z1 at h;refine zf Tryz.hU Tryz.func269 (fun _ _ _ hB=> ?_);refine z.d6.e5.g ?_;refine zS (fun y1=>⟨[(0,.vs s.length (F zB s)),(1,.fn (.func fk_f) [] fc_f),(7,I (s.length:Int)),(8,I y1)],[],[]⟩) (Sum.elim (fun q4=>(.ret,⟨[(4,I q4)],[],[]⟩)) (fun q5=>(.exit 0,⟨[],[],[]⟩))) [] hB h (fun y1 t h=> ?_) (fun q h=> ?_)
 ·unfold zY at h;refine z.c0.g ?_;refine zo h (fun _ h=> ?_) (fun _ h=> ?_)
  ·refine z.a.A.c.I.g ?_;refine Z5 h (fun v2 _ h=> ?_);refine l_load_agg ?_;refine l_callF hc_f h (fun _=>hf_f) (fun v3 _ h=> ?_);refine z.d.g ?_;refine zo h (fun _ h=> ?_) (fun _ h=> ?_)
   ·refine z.o.e.c.g ?_;exact zq [] hB h
   refine z.d2.g ?_;exact zt [] hB h
  refine z.s.g ?_;exact zq [] hB h
 rcases q with q4|q5
 ·dsimp only [Sum.elim] at h ⊢
  refine z.o.g ?_;apply za [] hB h
 dsimp only [Sum.elim] at h ⊢
 refine z.U.E.g ?_;apply za [] hB h
theorem slices_ContainsFunc_Decl_ok {s:(List zz)}{f:(zz→Option Bool)}{fk_f:Nat}{fc_f:List AV}(hf_f: ∀ {x0:zz} {r:Bool},f x0=some r→XSpec Tryz.prog fk_f ((.agg (zB x0))::fc_f) [] (B r) [] [])(hc_f:AV.closedL fc_f=true∧AV.onlyL [] fc_f=true){r:Bool}(h:qM s f=some r):XSpec Tryz.prog 251 [.vs s.length (F zB s),.fn (.func fk_f) [] fc_f] [] (B r) [] []:=by
 unfold qM at h;refine zf Tryz.hU Tryz.func251 (fun _ _ _ hB=> ?_);refine z.A.b.g ?_;refine zl h (fun _=>slices_IndexFunc_Decl_ok (fun h=>hf_f h) hc_f) (fun v1 _ h=> ?_);refine z.e.a8.g ?_;apply za [] hB h
theorem doc_prefix_ok {s:Str}{r:Bool}(h:Jn s=some r):XSpec Tryz.prog 253 [S s] [] (B r) [] []:=by
 unfold Jn at h;refine zf Tryz.hU Tryz.func253 (fun _ _ _ hB=> ?_);refine z.a.c2.b4.g ?_;refine zb h (fun _ h=> ?_) (fun _ h=> ?_)
 ·refine z.X.k.g ?_;apply za [] hB h
 refine z.h.g ?_;refine zl h (fun _=>ZY) (fun v1 _ h=> ?_);refine z.c1.g ?_;apply za [] hB h
theorem QB {s:Str}{r:Bool}(h:QW s=some r):XSpec Tryz.prog 222 [S s] [] (B r) [] []:=by
 unfold QW at h;refine zf Tryz.hU Tryz.func222 (fun _ _ _ hB=> ?_);refine z.n3.b4.g ?_;refine l_callB h (fun _=>utf_Text_ok) (fun v1 _ h=> ?_);refine z.e.g ?_;apply za [] hB h
theorem doc_declared_ok {l:(List zz)}{r:Bool}(h:doc_declared l=some r):XSpec Tryz.prog 220 [.vs l.length (F zB l)] [] (B r) [] []:=by
 unfold doc_declared at h;refine zf Tryz.hU Tryz.func220 (fun _ _ _ hB=> ?_);refine z.d6.e5.g ?_;refine zS (fun y1=>⟨[(0,.vs l.length (F zB l)),(6,.vs l.length (F zB l)),(7,I (l.length:Int)),(8,I y1)],[],[]⟩) (Sum.elim (fun q7=>(.ret,⟨[(2,B false)],[],[]⟩)) (fun q8=>(.exit 0,⟨[],[],[]⟩))) [] hB h (fun y1 t h=> ?_) (fun q h=> ?_)
 ·unfold ZI at h;refine z.c0.g ?_;refine zo h (fun _ h=> ?_) (fun _ h=> ?_)
  ·refine z.c.I.g ?_;refine Z5 h (fun v2 _ h=> ?_);refine z.p.c6.w.d0.b3.g ?_;refine l_subf h (fun v3 _ h=> ?_);refine l_makeFunc ?_;refine l_callB h (fun _=>slices_ContainsFunc_Decl_ok (fun h=>doc_declared_c1_ok h) ⟨rfl,rfl⟩) (fun v4 _ h=> ?_);refine z.A.g ?_;refine zb h (fun _ h=> ?_) (fun _ h=> ?_)
   ·refine z.e0.j4.l.d3.W.W.j4.j.g ?_;exact zq [] hB h
   refine z.u.g ?_;refine zl h (fun _=>doc_prefix_ok) (fun v5 _ h=> ?_);refine z.n.R.g ?_;refine zb h (fun _ h=> ?_) (fun _ h=> ?_)
   ·refine z.e0.j4.l.d3.W.W.l.g ?_;exact zq [] hB h
   refine z.n.h0.g ?_;refine zb h (fun _ h=> ?_) (fun _ h=> ?_)
   ·refine z.e0.j4.l.d3.d3.g ?_;exact zq [] hB h
   refine z.u.g ?_;refine zl h (fun _=>QB) (fun v6 _ h=> ?_);refine z.n.R.g ?_;refine zb h (fun _ h=> ?_) (fun _ h=> ?_)
   ·refine z.e0.j4.l.d3.j.g ?_;exact zq [] hB h
   refine z.c4.h0.g ?_;refine zb h (fun _ h=> ?_) (fun _ h=> ?_)
   ·refine z.n.i2.f5.u.g ?_;refine zb h (fun _ h=> ?_) (fun _ h=> ?_)
    ·refine z.e0.j4.l.j.g ?_;exact zq [] hB h
    refine z.n.p1.b0.h0.h0.g ?_;refine zb h (fun _ h=> ?_) (fun _ h=> ?_)
    ·refine z.e0.l.g ?_;exact zq [] hB h
    refine z.V.h0.g ?_;refine zo h (fun _ h=> ?_) (fun _ h=> ?_)
    ·refine z.i4.g ?_;exact zq [] hB h
    refine z.d2.g ?_;exact zt [] hB h
   refine z.n.p1.b0.h0.h0.n.i3.l.g ?_;refine zb h (fun _ h=> ?_) (fun _ h=> ?_)
   ·refine z.e0.l.g ?_;exact zq [] hB h
   refine z.V.h0.g ?_;refine zo h (fun _ h=> ?_) (fun _ h=> ?_)
   ·refine z.i4.g ?_;exact zq [] hB h
   refine z.d2.g ?_;exact zt [] hB h
  refine z.s.g ?_;exact zq [] hB h
 rcases q with q7|q8
 ·dsimp only [Sum.elim] at h ⊢
  refine z.o.g ?_;apply za [] hB h
 dsimp only [Sum.elim] at h ⊢
 refine z.U.E.g ?_;apply za [] hB h
theorem doc_means_ok {l:(List zd)}{n:Int}{p:Str}{r:Str×Bool}(h:doc_means l n p=some r):XSpec Tryz.prog 254 [.vs l.length (F zi l),I n,S p] [] (.tup [S r.1,B r.2]) [] []:=by
 unfold doc_means at h;refine zf Tryz.hU Tryz.func254 (fun _ _ _ hB=> ?_);refine z.d.c2.O.b1.g ?_;refine zo h (fun _ h=> ?_) (fun _ h=> ?_)
 ·refine z.M.g ?_;apply za [] hB h
 refine z.I.g ?_;refine zS (fun y1=>⟨[(0,.vs l.length (F zi l)),(1,I y1),(2,S p)],[],[]⟩) (Sum.elim (fun q8=>(.ret,⟨[(6,S q8),(7,B true)],[],[]⟩)) (fun q9=>(.exit 0,⟨[(2,S p)],[],[]⟩))) [] hB h (fun y1 t h=> ?_) (fun q h=> ?_)
 ·unfold doc_means_b1 at h;refine z.r.a1.g ?_;refine zo h (fun _ h=> ?_) (fun _ h=> ?_)
  ·refine z.p.I.g ?_;refine Z5 h (fun v2 _ h=> ?_);refine z.d6.T.g ?_;refine zS (fun y3=>⟨[(0,.vs l.length (F zi l)),(1,I y1),(2,S p),(23,.vs v2.Decls.length (F zB v2.Decls)),(24,I (v2.Decls.length:Int)),(25,I y3)],[],[]⟩) (Sum.elim (fun q5=>(.ret,⟨[(6,S q5),(7,B true)],[],[]⟩)) (fun q6=>(.exit 2,⟨[(0,.vs l.length (F zi l)),(1,I y1),(2,S p)],[],[]⟩))) [] hB h (fun y3 t h=> ?_) (fun q h=> ?_)
   ·unfold doc_means_b2 at h;refine z.c0.g ?_;refine zo h (fun _ h=> ?_) (fun _ h=> ?_)
    ·refine z.b.I.g ?_;refine Z5 h (fun v4 _ h=> ?_);refine z.d.c2.a.e6.c6.d0.b3.g ?_;refine zo h (fun _ h=> ?_) (fun _ h=> ?_)
     ·refine z.o.H.e6.g ?_;exact zq [] hB h
     refine z.d2.g ?_;exact zt [] hB h
    refine z.s.g ?_;exact zq [] hB h
   rcases q with q5|q6
   ·dsimp only [Sum.elim] at h ⊢
    refine z.o.t.g ?_;exact zq [] hB h
   dsimp only [Sum.elim] at h ⊢
   refine z.N.f8.m9.g ?_;refine Z5 h (fun v7 _ h=> ?_);refine z.q.T.g ?_;exact zt [] hB h
  refine z.s.g ?_;exact zq [] hB h
 rcases q with q8|q9
 ·dsimp only [Sum.elim] at h ⊢
  refine z.o.g ?_;apply za [] hB h
 dsimp only [Sum.elim] at h ⊢
 refine z.H.c2.c.E.g ?_;apply za [] hB h
theorem doc_named_c1_ok {o:zw}{p1:zw}{r:Bool}(h:Jr o p1=some r):XSpec Tryz.prog 256 [.agg (zI o),.vptr (zI p1)] [] (B r) [] []:=by
 unfold Jr at h;refine zf Tryz.hU Tryz.func256 (fun _ _ _ hB=> ?_);refine z.a.c2.T.e6.i.i6.b.g ?_;refine zb h (fun _ h=> ?_) (fun _ h=> ?_)
 ·refine z.X.h0.l4.g ?_;apply za [] hB h
 refine z.c1.f3.j.g ?_;apply za [] hB h
theorem slices_IndexFunc_Attr_ok {s:(List zw)}{f:(zw→Option Bool)}{fk_f:Nat}{fc_f:List AV}(hf_f: ∀ {x0:zw} {r:Bool},f x0=some r→XSpec Tryz.prog fk_f ((.agg (zI x0))::fc_f) [] (B r) [] [])(hc_f:AV.closedL fc_f=true∧AV.onlyL [] fc_f=true){r:Int}(h:Z2 s f=some r):XSpec Tryz.prog 270 [.vs s.length (F zI s),.fn (.func fk_f) [] fc_f] [] (I r) [] []:=by
 unfold Z2 at h;refine zf Tryz.hU Tryz.func270 (fun _ _ _ hB=> ?_);refine z.d6.e5.g ?_;refine zS (fun y1=>⟨[(0,.vs s.length (F zI s)),(1,.fn (.func fk_f) [] fc_f),(7,I (s.length:Int)),(8,I y1)],[],[]⟩) (Sum.elim (fun q4=>(.ret,⟨[(4,I q4)],[],[]⟩)) (fun q5=>(.exit 0,⟨[],[],[]⟩))) [] hB h (fun y1 t h=> ?_) (fun q h=> ?_)
 ·unfold zT at h;refine z.c0.g ?_;refine zo h (fun _ h=> ?_) (fun _ h=> ?_)
  ·refine z.a.A.c.I.g ?_;refine Z5 h (fun v2 _ h=> ?_);refine l_load_agg ?_;refine l_callF hc_f h (fun _=>hf_f) (fun v3 _ h=> ?_);refine z.d.g ?_;refine zo h (fun _ h=> ?_) (fun _ h=> ?_)
   ·refine z.o.e.c.g ?_;exact zq [] hB h
   refine z.d2.g ?_;exact zt [] hB h
  refine z.s.g ?_;exact zq [] hB h
 rcases q with q4|q5
 ·dsimp only [Sum.elim] at h ⊢
  refine z.o.g ?_;apply za [] hB h
 dsimp only [Sum.elim] at h ⊢
 refine z.U.E.g ?_;apply za [] hB h
theorem Q6 {s:(List zw)}{f:(zw→Option Bool)}{fk_f:Nat}{fc_f:List AV}(hf_f: ∀ {x0:zw} {r:Bool},f x0=some r→XSpec Tryz.prog fk_f ((.agg (zI x0))::fc_f) [] (B r) [] [])(hc_f:AV.closedL fc_f=true∧AV.onlyL [] fc_f=true){r:Bool}(h:qq s f=some r):XSpec Tryz.prog 255 [.vs s.length (F zI s),.fn (.func fk_f) [] fc_f] [] (B r) [] []:=by
 unfold qq at h;refine zf Tryz.hU Tryz.func255 (fun _ _ _ hB=> ?_);refine z.A.b.g ?_;refine zl h (fun _=>slices_IndexFunc_Attr_ok (fun h=>hf_f h) hc_f) (fun v1 _ h=> ?_);refine z.e.a8.g ?_;apply za [] hB h
theorem doc_named_ok {l:(List zd)}{n:Int}{r:Bool}(h:doc_named l n=some r):XSpec Tryz.prog 221 [.vs l.length (F zi l),I n] [] (B r) [] []:=by
 unfold doc_named at h;refine zf Tryz.hU Tryz.func221 (fun _ _ _ hB=> ?_);refine z.A.b.g ?_;refine Z5 h (fun v1 _ h=> ?_);refine z.T.p.c6.d0.b3.g ?_;refine zl h (fun _=>doc_means_ok) (fun v2 _ h=> ?_);refine z.e2.b2.g ?_;refine qW (fun q5=>(.normal,⟨[(0,.vs l.length (F zi l)),(1,I n),(5,.ptr 1005 0),(49,B q5)],[(1005,.box 48 [I v1.Kind,I v1.Parent,S v1.Prefix,S v1.Local,S v1.URI,S v1.Text,.vs v1.Decls.length (F zB v1.Decls),.vs v1.Attrs.length (F zI v1.Attrs)])],[]⟩)) h (fun t h=> ?_) (fun q5 h=> ?_)
 ·refine z.h8.f.g ?_;refine zb h (fun _ h=> ?_) (fun _ h=> ?_)
  ·refine z.L.j4.W.d3.g ?_;exact zm [(1005,1005)] hB h
  refine z.n.f5.b0.n7.h.g ?_;refine zb h (fun _ h=> ?_) (fun _ h=> ?_)
  ·refine z.L.j4.d3.g ?_;exact zm [(1005,1005)] hB h
  refine z.u.g ?_;refine zl h (fun _=>ZY) (fun v3 _ h=> ?_);refine z.n.R.g ?_;refine zb h (fun _ h=> ?_) (fun _ h=> ?_)
  ·refine z.L.j4.j.g ?_;exact zm [(1005,1005)] hB h
  refine z.u.g ?_;refine zl h (fun _=>doc_prefix_ok) (fun v4 _ h=> ?_);refine l_to [(1005,1005)] ⟨[(0,.vs l.length (F zi l)),(1,I n),(5,.ptr 1005 0),(39,B false),(42,B v4)],[(1005,.box 48 [I v1.Kind,I v1.Parent,S v1.Prefix,S v1.Local,S v1.URI,S v1.Text,.vs v1.Decls.length (F zB v1.Decls),.vs v1.Attrs.length (F zI v1.Attrs)])],[]⟩ hB ?_;refine z.n.R.g ?_;refine zb h (fun _ h=> ?_) (fun _ h=> ?_)
  ·refine z.L.l.g ?_;exact zm [(1005,1005)] hB h
  refine z.c8.h0.g ?_;exact zm [(1005,1005)] hB h
 refine f_t ?_;refine zo h (fun _ h=> ?_) (fun _ h=> ?_)
 ·refine z.Z.g ?_;apply za [] hB h
 refine z.d6.e6.h4.g ?_;refine zS (fun y6=>⟨[(0,.vs l.length (F zi l)),(1,I n),(5,.ptr 1005 0),(51,.vs v1.Attrs.length (F zI v1.Attrs)),(52,I (v1.Attrs.length:Int)),(53,I y6)],[(1005,.box 48 [I v1.Kind,I v1.Parent,S v1.Prefix,S v1.Local,S v1.URI,S v1.Text,.vs v1.Decls.length (F zB v1.Decls),.vs v1.Attrs.length (F zI v1.Attrs)])],[]⟩) (Sum.elim (fun q21=>(.ret,⟨[(4,B false)],[],[]⟩)) (fun q22=>(.exit 0,⟨[],[],[]⟩))) [(1005,1005)] hB h (fun y6 t h=> ?_) (fun q h=> ?_)
 ·unfold QM at h;refine z.c0.g ?_;refine zo h (fun _ h=> ?_) (fun _ h=> ?_)
  ·refine z.c.I.g ?_;refine Z5 h (fun v7 _ h=> ?_);refine z.T.p.c6.w.d0.b3.g ?_;refine zl h (fun _=>doc_means_ok) (fun v8 _ h=> ?_);refine z.d.c2.e6.a9.b2.g ?_;refine zo h (fun _ h=> ?_) (fun _ h=> ?_)
   ·refine z.a.e6.i.l2.g ?_;refine l_subf h (fun v9 _ h=> ?_);refine l_makeFunc ?_;refine l_callB h (fun _=>Q6 (fun h=>doc_named_c1_ok h) ⟨rfl,rfl⟩) (fun v10 _ h=> ?_);refine z.A.g ?_;refine zb h (fun _ h=> ?_) (fun _ h=> ?_)
    ·refine z.e0.d3.W.j4.W.W.W.k.g ?_;exact zq [] hB h
    refine z.n.i5.h.g ?_;refine zb h (fun _ h=> ?_) (fun _ h=> ?_)
    ·refine z.e0.d3.W.j4.W.d3.g ?_;exact zq [] hB h
    refine z.n.f5.b0.n7.h.g ?_;refine zb h (fun _ h=> ?_) (fun _ h=> ?_)
    ·refine z.e0.d3.W.j4.d3.g ?_;exact zq [] hB h
    refine z.u.g ?_;refine zl h (fun _=>ZY) (fun v11 _ h=> ?_);refine z.n.R.g ?_;refine zb h (fun _ h=> ?_) (fun _ h=> ?_)
    ·refine z.e0.d3.W.j4.j.g ?_;exact zq [] hB h
    refine z.u.g ?_;refine zl h (fun _=>doc_prefix_ok) (fun v12 _ h=> ?_);refine l_to [(1005,1005),(1009,1009)] ⟨[(0,.vs l.length (F zi l)),(1,I n),(5,.ptr 1005 0),(9,.ptr 1009 0),(51,.vs v1.Attrs.length (F zI v1.Attrs)),(52,I (v1.Attrs.length:Int)),(53,I y6),(77,B v8.2),(78,B (!v8.2)),(81,S []),(82,.ptr 1009 2),(83,S v7.URI),(84,B (!([]==v7.URI))),(87,.ptr 1009 1),(88,S v7.Local),(89,B v11),(90,B (!v11)),(92,B false),(93,.ptr 1009 0),(94,S v7.Prefix),(95,B v12)],[(1005,.box 48 [I v1.Kind,I v1.Parent,S v1.Prefix,S v1.Local,S v1.URI,S v1.Text,.vs v1.Decls.length (F zB v1.Decls),.vs v1.Attrs.length (F zI v1.Attrs)]),(1009,.box 126 [S v7.Prefix,S v7.Local,S v7.URI,S v7.Value])],[]⟩ hB ?_;refine z.n.R.g ?_;refine zb h (fun _ h=> ?_) (fun _ h=> ?_)
    ·refine z.e0.d3.W.l.g ?_;exact zq [] hB h
    refine z.n.h0.g ?_;refine zb h (fun _ h=> ?_) (fun _ h=> ?_)
    ·refine z.e0.d3.j.g ?_;exact zq [] hB h
    refine z.c4.h0.g ?_;refine zb h (fun _ h=> ?_) (fun _ h=> ?_)
    ·refine z.n.i2.h0.g ?_;refine zb h (fun _ h=> ?_) (fun _ h=> ?_)
     ·refine z.e0.j.g ?_;exact zq [] hB h
     refine z.u.g ?_;refine zl h (fun _=>QB) (fun v13 _ h=> ?_);refine z.V.R.g ?_;refine zo h (fun _ h=> ?_) (fun _ h=> ?_)
     ·refine z.i4.g ?_;exact zq [] hB h
     refine z.d2.g ?_;exact zt [(1005,1005)] hB h
    refine z.u.n.i3.l.g ?_;refine zl h (fun _=>QB) (fun v14 _ h=> ?_);refine z.V.R.g ?_;refine zo h (fun _ h=> ?_) (fun _ h=> ?_)
    ·refine z.i4.g ?_;exact zq [] hB h
    refine z.d2.g ?_;exact zt [(1005,1005)] hB h
   refine z.a.e6.D.g ?_;refine l_subf h (fun v15 _ h=> ?_);refine l_makeFunc ?_;refine l_callB h (fun _=>Q6 (fun h=>doc_named_c1_ok h) ⟨rfl,rfl⟩) (fun v16 _ h=> ?_);refine z.A.g ?_;refine zb h (fun _ h=> ?_) (fun _ h=> ?_)
   ·refine z.e0.d3.W.j4.W.W.W.k.g ?_;exact zq [] hB h
   refine z.n.i5.h.g ?_;refine zb h (fun _ h=> ?_) (fun _ h=> ?_)
   ·refine z.e0.d3.W.j4.W.d3.g ?_;exact zq [] hB h
   refine z.n.f5.b0.n7.h.g ?_;refine zb h (fun _ h=> ?_) (fun _ h=> ?_)
   ·refine z.e0.d3.W.j4.d3.g ?_;exact zq [] hB h
   refine z.u.g ?_;refine zl h (fun _=>ZY) (fun v17 _ h=> ?_);refine z.n.R.g ?_;refine zb h (fun _ h=> ?_) (fun _ h=> ?_)
   ·refine z.e0.d3.W.j4.j.g ?_;exact zq [] hB h
   refine z.u.g ?_;refine zl h (fun _=>doc_prefix_ok) (fun v18 _ h=> ?_);refine l_to [(1005,1005),(1009,1009)] ⟨[(0,.vs l.length (F zi l)),(1,I n),(5,.ptr 1005 0),(9,.ptr 1009 0),(51,.vs v1.Attrs.length (F zI v1.Attrs)),(52,I (v1.Attrs.length:Int)),(53,I y6),(77,B v8.2),(78,B (!v8.2)),(81,S v8.1),(82,.ptr 1009 2),(83,S v7.URI),(84,B (!(v8.1==v7.URI))),(87,.ptr 1009 1),(88,S v7.Local),(89,B v17),(90,B (!v17)),(92,B false),(93,.ptr 1009 0),(94,S v7.Prefix),(95,B v18)],[(1005,.box 48 [I v1.Kind,I v1.Parent,S v1.Prefix,S v1.Local,S v1.URI,S v1.Text,.vs v1.Decls.length (F zB v1.Decls),.vs v1.Attrs.length (F zI v1.Attrs)]),(1009,.box 126 [S v7.Prefix,S v7.Local,S v7.URI,S v7.Value])],[]⟩ hB ?_;refine z.n.R.g ?_;refine zb h (fun _ h=> ?_) (fun _ h=> ?_)
   ·refine z.e0.d3.W.l.g ?_;exact zq [] hB h
   refine z.n.h0.g ?_;refine zb h (fun _ h=> ?_) (fun _ h=> ?_)
   ·refine z.e0.d3.j.g ?_;exact zq [] hB h
   refine z.c4.h0.g ?_;refine zb h (fun _ h=> ?_) (fun _ h=> ?_)
   ·refine z.n.i2.h0.g ?_;refine zb h (fun _ h=> ?_) (fun _ h=> ?_)
    ·refine z.e0.j.g ?_;exact zq [] hB h
    refine z.u.g ?_;refine zl h (fun _=>QB) (fun v19 _ h=> ?_);refine z.V.R.g ?_;refine zo h (fun _ h=> ?_) (fun _ h=> ?_)
    ·refine z.i4.g ?_;exact zq [] hB h
    refine z.d2.g ?_;exact zt [(1005,1005)] hB h
   refine z.u.n.i3.l.g ?_;refine zl h (fun _=>QB) (fun v20 _ h=> ?_);refine z.V.R.g ?_;refine zo h (fun _ h=> ?_) (fun _ h=> ?_)
   ·refine z.i4.g ?_;exact zq [] hB h
   refine z.d2.g ?_;exact zt [(1005,1005)] hB h
  refine z.s.g ?_;exact zq [] hB h
 rcases q with q21|q22
 ·dsimp only [Sum.elim] at h ⊢
  refine z.o.g ?_;apply za [] hB h
 dsimp only [Sum.elim] at h ⊢
 refine z.U.E.g ?_;apply za [] hB h
theorem stringslite_HasSuffix_ok {s:Str}{suffix:Str}{r:Bool}(h:Z4 s suffix=some r):XSpec Tryz.prog 257 [S s,S suffix] [] (B r) [] []:=by
 unfold Z4 at h;refine zf Tryz.hU Tryz.func257 (fun _ _ _ hB=> ?_);refine z.B.Y.a.Y.b4.g ?_;refine zb h (fun _ h=> ?_) (fun _ h=> ?_)
 ·refine z.b0.e4.b0.Y.h.Y.h7.g ?_;refine Za h (fun v1 _ h=> ?_);refine z.X.c2.h.g ?_;apply za [] hB h
 refine z.c1.f3.j.j.g ?_;apply za [] hB h
theorem strings_HasSuffix_ok {s:Str}{suffix:Str}{r:Bool}(h:Qd s suffix=some r):XSpec Tryz.prog 223 [S s,S suffix] [] (B r) [] []:=by
 unfold Qd at h;refine zf Tryz.hU Tryz.func223 (fun _ _ _ hB=> ?_);refine z.A.b.g ?_;refine zl h (fun _=>stringslite_HasSuffix_ok) (fun v1 _ h=> ?_);refine z.e.g ?_;apply za [] hB h
theorem doc_target_ok {s:Str}{r:Bool}(h:JH s=some r):XSpec Tryz.prog 224 [S s] [] (B r) [] []:=by
 unfold JH at h;refine zf Tryz.hU Tryz.func224 (fun _ _ _ hB=> ?_);refine z.B.Y.b4.g ?_;refine zb h (fun _ h=> ?_) (fun _ h=> ?_)
 ·refine z.h.g ?_;refine ZZ h (fun v1 _ h=> ?_);refine z.c4.b8.g ?_;refine zb h (fun _ h=> ?_) (fun _ h=> ?_)
  ·refine z.h.a3.i2.l.g ?_;refine ZZ h (fun v2 _ h=> ?_);refine z.c4.b8.g ?_;refine zb h (fun _ h=> ?_) (fun _ h=> ?_)
   ·refine z.h.a3.i2.l.g ?_;refine ZZ h (fun v3 _ h=> ?_);refine z.c4.b8.g ?_;refine zb h (fun _ h=> ?_) (fun _ h=> ?_)
    ·refine z.X.i2.l.g ?_;apply za [] hB h
    refine z.h.g ?_;refine ZZ h (fun v4 _ h=> ?_);refine z.X.i3.b8.g ?_;apply za [] hB h
   refine z.h.g ?_;refine ZZ h (fun v5 _ h=> ?_);refine z.a3.i3.b8.g ?_;refine zb h (fun _ h=> ?_) (fun _ h=> ?_)
   ·refine z.h.g ?_;refine ZZ h (fun v6 _ h=> ?_);refine z.c4.b8.g ?_;refine zb h (fun _ h=> ?_) (fun _ h=> ?_)
    ·refine z.X.i2.l.g ?_;apply za [] hB h
    refine z.h.g ?_;refine ZZ h (fun v7 _ h=> ?_);refine z.X.i3.b8.g ?_;apply za [] hB h
   refine z.c1.j.j.g ?_;apply za [] hB h
  refine z.h.g ?_;refine ZZ h (fun v8 _ h=> ?_);refine z.a3.i3.b8.g ?_;refine zb h (fun _ h=> ?_) (fun _ h=> ?_)
  ·refine z.h.g ?_;refine ZZ h (fun v9 _ h=> ?_);refine z.c4.b8.g ?_;refine zb h (fun _ h=> ?_) (fun _ h=> ?_)
   ·refine z.h.a3.i2.l.g ?_;refine ZZ h (fun v10 _ h=> ?_);refine z.c4.b8.g ?_;refine zb h (fun _ h=> ?_) (fun _ h=> ?_)
    ·refine z.X.i2.l.g ?_;apply za [] hB h
    refine z.h.g ?_;refine ZZ h (fun v11 _ h=> ?_);refine z.X.i3.b8.g ?_;apply za [] hB h
   refine z.h.g ?_;refine ZZ h (fun v12 _ h=> ?_);refine z.a3.i3.b8.g ?_;refine zb h (fun _ h=> ?_) (fun _ h=> ?_)
   ·refine z.h.g ?_;refine ZZ h (fun v13 _ h=> ?_);refine z.c4.b8.g ?_;refine zb h (fun _ h=> ?_) (fun _ h=> ?_)
    ·refine z.X.i2.l.g ?_;apply za [] hB h
    refine z.h.g ?_;refine ZZ h (fun v14 _ h=> ?_);refine z.X.i3.b8.g ?_;apply za [] hB h
   refine z.c1.j.j.g ?_;apply za [] hB h
  refine z.c1.j.h1.j.j.g ?_;apply za [] hB h
 refine z.c1.j.h1.j.h1.j.j.g ?_;apply za [] hB h
end Go.Proofs.YtojbjdcflgeibaaGreatDoor
