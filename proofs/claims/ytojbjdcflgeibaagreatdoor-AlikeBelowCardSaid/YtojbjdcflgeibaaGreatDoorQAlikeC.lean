/- AlikeBelow: where two nodes are alike, with comments, so are their children, one by one, and all that is below them is as much: for all bytes of two documents, for every two nodes. The package variables that the row lists are read nowhere on the way, or as they were laid. Conditions: none. -/
import Derived.Test.YtojbjdcflgeibaaGreatDoorRows
import Derived.Test.YtojbjdcflgeibaaGreatDoorTie
import Derived.Test.YtojbjdcflgeibaaGreatDoorCards
import Derived.Test.YtojbjdcflgeibaaGreatDoorQWalk
import Derived.Test.YtojbjdcflgeibaaGreatDoorPlain2
import Derived.Test.YtojbjdcflgeibaaGreatDoorAbsM3
import Derived.MakeChecks
import Derived.WalkKit
import Derived.ProofKit
import Derived.OpenShut
import Derived.LaidMore
import Derived.Lay
import Derived.SevenTiedAt
import Derived.Stop.Joined
namespace Go.Proofs.YtojbjdcflgeibaaGreatDoor
open Go Go.Abs Go.ChangeShapes Go.WideShapes Go.ChangeAt Go.RowKit W G
set_option linter.unusedVariables false
set_option maxHeartbeats 4000000
set_option linter.unusedSimpArgs false
theorem lawOwn:ownKnob Tryz.prog.godebug=none:=by kernel_rfl
theorem rdBytes:Rd Tryz.prog 22 (fun l:List UInt8=>[.vs l.length (F cU l)]) (fun _=>True):=
 Rd.map (Rd.slice (Rd.byte (t:=5) (by kernel_rfl) (by kernel_rfl)) (by kernel_rfl) (by kernel_rfl) (by rw [show Tryz.prog.cellsOf 5=1 by kernel_rfl];decide)) id id (fun l _=>⟨rfl,trivial⟩) (fun l=>rfl)
theorem alikeBelow_glob {W:World}(h:laidMetH Tryz.prog Rows.alikeBelowRow.laid W)(hS:W.ShapedOpen Tryz.prog):GOk (fun _=>False) W:=by
 rw [MakeChecks.laidMetH_plain _ _ _ (by kernel_rfl)] at h
 refine gok_of (P:=Tryz.prog) (fun g cs hg=> ?_) (fun g hg=> ?_)
 ·have hg:(g,cs)∈[(0,(utf8First.flatMap (fun x:UInt8=>[Value.int .u8 (x.toNat:Int)]))),(1,(utf8Ranges.flatMap (fun x:QP=>[Value.int .u8 (x.lo.toNat:Int),Value.int .u8 (x.hi.toNat:Int)])))]:=hg
  simp only [List.mem_cons,List.mem_nil_iff,or_false,Prod.mk.injEq] at hg
  rcases hg with ⟨rfl,rfl⟩|⟨rfl,rfl⟩
  ·refine ⟨⟨"unicode/utf8.first",by kernel_rfl,?_⟩,List.all_eq_true.1 (by kernel_rfl)⟩
   rw [show (utf8First.flatMap (fun x:UInt8=>[Value.int .u8 (x.toNat:Int)]))=(utf8First.map fun x=>(x.toNat:Int)).map (fun z=>Value.int .u8 z) by kernel_rfl]
   exact Go.Abs.var_ints (g:=0) (n:=256) (t:=233) (e:=5) (Go.Lib.laidMet.reads h (n:= "unicode/utf8.first") (List.mem_of_getElem? (i:=1) rfl)) (by kernel_rfl) (by kernel_rfl) (by kernel_rfl) (by kernel_rfl) (by kernel_rfl) (by kernel_rfl) (by kernel_rfl)
  ·refine ⟨⟨"unicode/utf8.acceptRanges",by kernel_rfl,?_⟩,List.all_eq_true.1 (by kernel_rfl)⟩
   rw [show (utf8Ranges.flatMap (fun x:QP=>[Value.int .u8 (x.lo.toNat:Int),Value.int .u8 (x.hi.toNat:Int)]))=(utf8Ranges.map fun x=>[(x.lo.toNat:Int),(x.hi.toNat:Int)]).flatMap fun zs=>zs.map fun z=>Value.int .u8 z by kernel_rfl]
   exact Go.Abs.var_structs (g:=1) (n:=16) (m:=2) (t:=236) (e:=235) (fs:= #[{name:= "lo",type:=5,offset:=0,embedded:=false,tag:= "",pkgPath:= "unicode/utf8",byteOffset:=0},{name:= "hi",type:=5,offset:=1,embedded:=false,tag:= "",pkgPath:= "unicode/utf8",byteOffset:=1}]) (Go.Lib.laidMet.reads h (n:= "unicode/utf8.acceptRanges") (List.mem_of_getElem? (i:=0) rfl)) (by kernel_rfl) (by kernel_rfl) (by kernel_rfl) (by kernel_rfl) (by kernel_rfl) (by kernel_rfl) (by kernel_rfl) (by rfl) (fun j f hj=>by
    match j,hj with
    |0,hj=>simp at hj;subst hj;exact ⟨by kernel_rfl,rfl,by kernel_rfl⟩
    |1,hj=>simp at hj;subst hj;exact ⟨by kernel_rfl,rfl,by kernel_rfl⟩
    |j+2,hj=>simp at hj) (fun zs hz=>by obtain ⟨x,_,rfl⟩:=List.mem_map.1 hz;rfl) (by kernel_rfl)
 ·have hg:g∈[2]:=hg
  obtain rfl:=List.mem_singleton.1 hg
  exact int_of_shaped (t:=3) (zero:= #[.int .i64 0]) hS (by kernel_rfl) (by kernel_rfl) rfl (by kernel_rfl) (by kernel_rfl) (by kernel_rfl)
theorem alikeBelow_spec (x0:List UInt8)(x1:List UInt8)(x2:Int)(x3:Int):PSpec Tryz.prog 3 [.vs x0.length (F cU x0),.vs x1.length (F cU x1),.pl (.int .i64 x2),.pl (.int .i64 x3)] (.pl (.bool true)):=by
 have h:=(apostillelaw31_AlikeBelow_ok (G.alikeBelow_plain x0 x1 x2 x3)).p
 exact h
set_option maxRecDepth 100000 in
theorem alikeBelow_lifted (os:Os)(started:os.Started)(H:Type)(enc:TypeId×Value→H):
 ReturnsInHanded {} Tryz.checked os 3 .any (fun w args=>(Rows.alikeBelowSpec.pre enc Tryz.prog Tryz.f3 Rows.alikeBelowRow.domain false w args∧laidMetH Tryz.prog Rows.alikeBelowRow.laid w)∧sizedMet enc Tryz.prog Tryz.f3 (OpenSpec.ofChange Rows.alikeBelowSpec) false w args)
  (Rows.alikeBelowSpec.post enc Tryz.prog Tryz.f3 false true false false):=by
 refine lifted (C:=Tryz.checked) (X:=fun w _=>laidMetH Tryz.prog Rows.alikeBelowRow.laid w) (fun _ _ _ hh h=>h.of_heap hh) lawOwn started (by kernel_rfl) Tryz.func3
  (ChangeSpec.witness_shaped (enc:=enc) (C:=Tryz.checked) (os:=os) (X:=fun w _=>laidMetH Tryz.prog Rows.alikeBelowRow.laid w) false (World.laidAll Tryz.prog os Rows.alikeBelowRow.laid) #[.slice none 0 0,.slice none 0 0,.int .i64 0,.int .i64 0] 8 (World.laidAll_os _ _ _)
   (World.shaped_of_ZipB (by kernel_rfl) (by kernel_rfl)) (by kernel_rfl) (by kernel_rfl) (by kernel_rfl)
   (by rw [MakeChecks.laidMetH_plain _ _ _ (by kernel_rfl)];exact laidMet_laidAll _ (by kernel_rfl) (by kernel_rfl))) ?_
 intro W base args ds gs before hval0 hW hL hS
 have hval: ∀ (j:Nat) t v,Tryz.f3.params[j]? =some t→args[j]? =some v→Value.okWide Tryz.prog W .any base t v:=hval0
 have hW':=hW
 obtain ⟨p,q,hA0,hV,rfl,_,_⟩:=hW
 have hA:DataW.TrodAll enc Tryz.prog W 0 (fun _=>true) true Tryz.f3.params.toList args.toList ds p:=hA0
 rw [Tryz.params3] at hA hval
 obtain ⟨v0,vs0,d0,ds0,p0,q0,hargs,rfl,rfl,h0,r0⟩:=trodAll_cons hA
 obtain ⟨v1,vs1,d1,ds1,p1,q1,rfl,rfl,rfl,h1,r1⟩:=trodAll_cons r0
 obtain ⟨v2,vs2,d2,ds2,p2,q2,rfl,rfl,rfl,h2,r2⟩:=trodAll_cons r1
 obtain ⟨v3,vs3,d3,ds3,p3,q3,rfl,rfl,rfl,h3,r3⟩:=trodAll_cons r2
 obtain ⟨rfl,rfl,rfl⟩:=trodAll_nil r3
 obtain rfl:args= #[v0,v1,v2,v3]:=by cases args;simp_all
 obtain ⟨rfl,rfl⟩:=trodVars_none hV
 obtain ⟨x0,_,hk0⟩:=rdBytes.one (fun l:List UInt8=> .vs l.length (F cU l)) (fun _=>rfl) (by rw [Tryz.underlying22]) (hval 0 22 v0 rfl rfl) h0
 obtain ⟨x1,_,hk1⟩:=rdBytes.one (fun l:List UInt8=> .vs l.length (F cU l)) (fun _=>rfl) (by rw [Tryz.underlying22]) (hval 1 22 v1 rfl rfl) h1
 obtain ⟨x2,rfl,_,_,wf2⟩:=open_int Tryz.underlying3 (hval 2 3 v2 rfl rfl) h2
 obtain ⟨x3,rfl,_,_,wf3⟩:=open_int Tryz.underlying3 (hval 3 3 v3 rfl rfl) h3
 refine (law_calls (alikeBelow_spec x0 x1 x2 x3) (vs:= #[v0,v1,.int .i64 x2,.int .i64 x3]) rfl ?_ (alikeBelow_glob hL hS)).mono fun e W' ⟨he,hb⟩=> ?_
 ·intro i x v hx hv
  match i,hx,hv with
  |0,hx,hv=>simp at hx hv;subst hx hv;exact hk0
  |1,hx,hv=>simp at hx hv;subst hx hv;exact hk1
  |2,hx,hv=>simp at hx hv;subst hx hv;exact .pl _
  |3,hx,hv=>simp at hx hv;subst hx hv;exact .pl _
  |i+4,hx,hv=>simp at hx
 ·subst he
  exact ⟨_,rfl,law_post (L:=[22,5,3]) (tb:=4) hW' rfl (by kernel_rfl) (by kernel_rfl) hb (by kernel_rfl) Tryz.underlying4 rfl⟩
theorem and_two {a b:Bool}(h:a=true)(k:b=true):(a&&b)=true:=by rw [h,k];rfl
set_option maxHeartbeats 4000000 in
set_option maxRecDepth 100000 in
theorem alikeBelow_closed:joinedFacts Tryz.pinned.checked.prog 3 Tryz.f3 Rows.alikeBelowSpec Rows.alikeBelowRow=true:=by
 unfold joinedFacts
 repeat' (with_reducible refine and_two ?_ ?_)
 all_goals (as_aux_lemma=>kernel_rfl)
theorem alikeBelow_row:Rows.AlikeBelowSaid:=
 OpenClaim.holds_of_wide 3 Tryz.f3 rfl rfl rfl rfl rfl rfl rfl ⟨rfl,rfl,rfl,rfl,rfl⟩ rfl rfl rfl rfl rfl (by kernel_rfl) Tryz.func3 alikeBelow_closed
  (of_decide_eq_true (by kernel_rfl)) (by unfold Func.isWrapper;first|(rw [if_pos (by decide+kernel)];kernel_rfl)|(rw [if_neg (by decide+kernel)];exact ⟨rfl,rfl⟩))
  (fun os started H enc _=>alikeBelow_lifted os started H enc)
theorem alikeBelow:Rows.AlikeBelowCardSaid:=
 Claim7.holds_tied_plain_at .later [] [.data,.pinned] true (true,"38546202bee1a2b9fc40c611b4b27d55205ccb6aaa7a255f6cd0923044ef2e2d") true alikeBelow_row (fun _ h=>by cases h) (by as_aux_lemma=>kernel_rfl) (fun _ h=>by cases h) alikeBelow_row_tie rfl ⟨rfl,rfl⟩ (by as_aux_lemma=>kernel_rfl) rfl
  (fun f fn hf hfn=>by
   obtain rfl:f=3:=Option.some.inj ((show Tryz.prog.funcNamed "apostille/apostillelaw31.AlikeBelow" =some 3 by as_aux_lemma=>kernel_rfl).symm.trans hf) |>.symm
   obtain rfl:fn=Tryz.f3:=(Option.some.inj (Tryz.func3.symm.trans hfn)).symm
   exact ⟨by as_aux_lemma=>kernel_rfl,fun j t ht=>by
    rw [Tryz.params3] at ht
    have hm:t∈[22,22,3,3]:=by simpa using Array.mem_of_getElem? ht
    have hall:([22,22,3,3].all fun u=> !Tryz.prog.wantsStandIn u)=true:=by as_aux_lemma=>kernel_rfl
    exact (show Tryz.prog.wantsStandIn t=false by simpa using List.all_eq_true.1 hall t hm)⟩)
  (by as_aux_lemma=>kernel_rfl)
end Go.Proofs.YtojbjdcflgeibaaGreatDoor
