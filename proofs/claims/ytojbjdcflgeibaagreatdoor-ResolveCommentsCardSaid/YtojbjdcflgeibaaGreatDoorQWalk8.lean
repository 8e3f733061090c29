/- WALKS, printed by aw.py: that the program's functions compute the plain ones. Conditions: none. -/
import Derived.Test.YtojbjdcflgeibaaGreatDoorQWalk7
set_option linter.unusedVariables false
set_option linter.unusedSimpArgs false
set_option maxRecDepth 20000
set_option maxHeartbeats 4000000
namespace Go.Proofs.YtojbjdcflgeibaaGreatDoor
open Go Go.Abs W G
theorem point_some_ok {n:Int}{part:Int}{many:Int}{r:(List zV)}(h:point_some n part many=some r):XSpec Tryz.prog 77 [I n,I part,I many] [] (.sl 1 0 r.length) [(1,.row 54 3 0 (F Zw r))] []:=by
 unfold point_some at h;refine zd Tryz.hU Tryz.func77 (fun _ _ _ hB=> ?_);refine z.l7.i.k3.j.c.g ?_;refine k_nilrow (te:=54) (t:=7) 3007 3 ?_;refine zH (fun y1=>⟨[(0,I n),(1,I part),(7,.sl 3007 0 y1.2.length),(9,I many),(10,I y1.1)],[(3007,.row 54 3 0 (F Zw y1.2))],[]⟩) (fun q3=>(.exit 0,⟨[(7,.sl 3007 0 q3.length)],[(3007,.row 54 3 0 (F Zw q3))],[]⟩)) [(3007,3007)] hB h (fun y1 t h=> ?_) (fun q3 h=> ?_)
 ·unfold JG at h;refine z.b8.g ?_;refine zn h (fun _ h=> ?_) (fun _ h=> ?_)
  ·refine z.l0.j1.j.k7.g ?_;refine QM (e:=Zw) [(zV.mk n part y1.1)] ?_;refine Q9 h (fun v2 _ h=> ?_);refine z.e1.E.g ?_;exact zu [(3007,3007)] hB h
  refine z.k.g ?_;exact zr [(3007,3007)] hB h
 refine z.l.i9.g ?_;apply zb [(3007,1)] hB h
theorem point_Spaces_ok {d:(Option Zb)}{n:Int}{r:(List zV)}(h:point_Spaces d n=some r):XSpec Tryz.prog 31 [oP ZN d,I n] [] (.sl 1 0 r.length) [(1,.row 54 3 0 (F Zw r))] []:=by
 unfold point_Spaces at h;refine zd Tryz.hU Tryz.func31 (fun _ _ _ hB=> ?_);refine z.a.p.c.g ?_;refine zi [(1,100801)] [] h (fun _=>space_Scope_ok) (fun v1 _ h=> ?_);refine l_len ?_;refine zi [(1,101001)] [] h (fun _=>point_some_ok) (fun v2 _ h=> ?_);refine z.l.g ?_;apply zb [(101001,1)] hB h
theorem point_Marks_ok {d:(Option Zb)}{n:Int}{r:(List zV)}(h:point_Marks d n=some r):XSpec Tryz.prog 32 [oP ZN d,I n] [] (.sl 1 0 r.length) [(1,.row 54 3 0 (F Zw r))] []:=by
 unfold point_Marks at h;refine zd Tryz.hU Tryz.func32 (fun _ _ _ hB=> ?_);refine z.a.p.c.g ?_;refine zm h (fun _=>QK) (fun v1 _ h=> ?_);refine z.N.p4.g ?_;refine zi [(1,101101)] [] h (fun _=>point_some_ok) (fun v2 _ h=> ?_);refine z.l.g ?_;apply zb [(101101,1)] hB h
end Go.Proofs.YtojbjdcflgeibaaGreatDoor
