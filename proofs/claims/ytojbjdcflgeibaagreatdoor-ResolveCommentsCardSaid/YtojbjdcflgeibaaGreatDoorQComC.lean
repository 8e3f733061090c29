/- ResolveComments: who is called so, with comments, is what is meant without them, and the comments in it: for all bytes, for every identifier. The package variables that the row lists are read nowhere on the way, or as they were laid. Conditions: none. -/
import Derived.Test.YtojbjdcflgeibaaGreatDoorRows
import Derived.Test.YtojbjdcflgeibaaGreatDoorTie
import Derived.Test.YtojbjdcflgeibaaGreatDoorCards
import Derived.Test.YtojbjdcflgeibaaGreatDoorQWalk
import Derived.Test.YtojbjdcflgeibaaGreatDoorPlain2
import Derived.Test.YtojbjdcflgeibaaGreatDoorAbsM3
import Derived.MakeChecks
import Derived.WalkKit
import Derived.ProofKit
import Derived.OpenShut
import Derived.LaidMore
import Derived.Lay
import Derived.SevenTiedAt
import Derived.Stop.Joined
namespace Go.Proofs.YtojbjdcflgeibaaGreatDoor
open Go Go.Abs Go.ChangeShapes Go.WideShapes Go.ChangeAt Go.RowKit W G
set_option linter.unusedVariables false
set_option maxHeartbeats 4000000
set_option linter.unusedSimpArgs false
theorem lawOwn:ownKnob Tryz.prog.godebug=none:=by kernel_rfl
theorem bytes_back (s:ByteArray):(⟨s.data.toList.toArray⟩:ByteArray)=s:=by cases s;simp
theorem S_back (s:ByteArray):S s.data.toList=AV.pl (.string s):=congrArg (fun b=>AV.pl (.string b)) (bytes_back s)
theorem rdBytes:Rd Tryz.prog 22 (fun l:List UInt8=>[.vs l.length (F cU l)]) (fun _=>True):=
 Rd.map (Rd.slice (Rd.byte (t:=5) (by kernel_rfl) (by kernel_rfl)) (by kernel_rfl) (by kernel_rfl) (by rw [show Tryz.prog.cellsOf 5=1 by kernel_rfl];decide)) id id (fun l _=>⟨rfl,trivial⟩) (fun l=>rfl)
theorem resolveComments_glob {W:World}(h:laidMetH Tryz.prog Rows.resolveCommentsRow.laid W)(hS:W.ShapedOpen Tryz.prog):GOk (fun _=>False) W:=by
 rw [MakeChecks.laidMetH_plain _ _ _ (by kernel_rfl)] at h
 refine gok_of (P:=Tryz.prog) (fun g cs hg=> ?_) (fun g hg=> ?_)
 ·have hg:(g,cs)∈[(0,(utf8First.flatMap (fun x:UInt8=>[Value.int .u8 (x.toNat:Int)]))),(1,(utf8Ranges.flatMap (fun x:Ju=>[Value.int .u8 (x.lo.toNat:Int),Value.int .u8 (x.hi.toNat:Int)])))]:=hg
  simp only [List.mem_cons,List.mem_nil_iff,or_false,Prod.mk.injEq] at hg
  rcases hg with ⟨rfl,rfl⟩|⟨rfl,rfl⟩
  ·refine ⟨⟨"unicode/utf8.first",by kernel_rfl,?_⟩,List.all_eq_true.1 (by kernel_rfl)⟩
   rw [show (utf8First.flatMap (fun x:UInt8=>[Value.int .u8 (x.toNat:Int)]))=(utf8First.map fun x=>(x.toNat:Int)).map (fun z=>Value.int .u8 z) by kernel_rfl]
   exact Go.Abs.var_ints (g:=0) (n:=256) (t:=233) (e:=5) (Go.Lib.laidMet.reads h (n:= "unicode/utf8.first") (List.mem_of_getElem? (i:=1) rfl)) (by kernel_rfl) (by kernel_rfl) (by kernel_rfl) (by kernel_rfl) (by kernel_rfl) (by kernel_rfl) (by kernel_rfl)
  ·refine ⟨⟨"unicode/utf8.acceptRanges",by kernel_rfl,?_⟩,List.all_eq_true.1 (by kernel_rfl)⟩
   rw [show (utf8Ranges.flatMap (fun x:Ju=>[Value.int .u8 (x.lo.toNat:Int),Value.int .u8 (x.hi.toNat:Int)]))=(utf8Ranges.map fun x=>[(x.lo.toNat:Int),(x.hi.toNat:Int)]).flatMap fun zs=>zs.map fun z=>Value.int .u8 z by kernel_rfl]
   exact Go.Abs.var_structs (g:=1) (n:=16) (m:=2) (t:=236) (e:=235) (fs:= #[{name:= "lo",type:=5,offset:=0,embedded:=false,tag:= "",pkgPath:= "unicode/utf8",byteOffset:=0},{name:= "hi",type:=5,offset:=1,embedded:=false,tag:= "",pkgPath:= "unicode/utf8",byteOffset:=1}]) (Go.Lib.laidMet.reads h (n:= "unicode/utf8.acceptRanges") (List.mem_of_getElem? (i:=0) rfl)) (by kernel_rfl) (by kernel_rfl) (by kernel_rfl) (by kernel_rfl) (by kernel_rfl) (by kernel_rfl) (by kernel_rfl) (by rfl) (fun j f hj=>by
    match j,hj with
    |0,hj=>simp at hj;subst hj;exact ⟨by kernel_rfl,rfl,by kernel_rfl⟩
    |1,hj=>simp at hj;subst hj;exact ⟨by kernel_rfl,rfl,by kernel_rfl⟩
    |j+2,hj=>simp at hj) (fun zs hz=>by obtain ⟨x,_,rfl⟩:=List.mem_map.1 hz;rfl) (by kernel_rfl)
 ·have hg:g∈[2]:=hg
  obtain rfl:=List.mem_singleton.1 hg
  exact int_of_shaped (t:=3) (zero:= #[.int .i64 0]) hS (by kernel_rfl) (by kernel_rfl) rfl (by kernel_rfl) (by kernel_rfl) (by kernel_rfl)
theorem resolveComments_spec (x0:List UInt8)(x1:ByteArray):PSpec Tryz.prog 11 [.vs x0.length (F cU x0),.pl (.string x1)] (.pl (.bool true)):=by
 have h:=(zaC (G.resolveComments_plain x0 x1.data.toList)).p
 rw [S_back] at h
 exact h
set_option maxRecDepth 100000 in
theorem resolveComments_lifted (os:Os)(started:os.Started)(H:Type)(enc:TypeId×Value→H):
 ReturnsInHanded {} Tryz.checked os 11 .any (fun w args=>(Rows.resolveCommentsSpec.pre enc Tryz.prog Tryz.f11 Rows.resolveCommentsRow.domain false w args∧laidMetH Tryz.prog Rows.resolveCommentsRow.laid w)∧sizedMet enc Tryz.prog Tryz.f11 (OpenSpec.ofChange Rows.resolveCommentsSpec) false w args)
  (Rows.resolveCommentsSpec.post enc Tryz.prog Tryz.f11 false true false false):=by
 refine lifted (C:=Tryz.checked) (X:=fun w _=>laidMetH Tryz.prog Rows.resolveCommentsRow.laid w) (fun _ _ _ hh h=>h.of_heap hh) lawOwn started (by kernel_rfl) Tryz.func11
  (ChangeSpec.witness_shaped (enc:=enc) (C:=Tryz.checked) (os:=os) (X:=fun w _=>laidMetH Tryz.prog Rows.resolveCommentsRow.laid w) false (World.laidAll Tryz.prog os Rows.resolveCommentsRow.laid) #[.slice none 0 0,.string ⟨#[]⟩] 8 (World.laidAll_os _ _ _)
   (World.shaped_of_ZipB (by kernel_rfl) (by kernel_rfl)) (by kernel_rfl) (by kernel_rfl) (by kernel_rfl)
   (by rw [MakeChecks.laidMetH_plain _ _ _ (by kernel_rfl)];exact laidMet_laidAll _ (by kernel_rfl) (by kernel_rfl))) ?_
 intro W base args ds gs before hval0 hW hL hS
 have hval: ∀ (j:Nat) t v,Tryz.f11.params[j]? =some t→args[j]? =some v→Value.okWide Tryz.prog W .any base t v:=hval0
 have hW':=hW
 obtain ⟨p,q,hA0,hV,rfl,_,_⟩:=hW
 have hA:DataW.TrodAll enc Tryz.prog W 0 (fun _=>true) true Tryz.f11.params.toList args.toList ds p:=hA0
 rw [Tryz.params11] at hA hval
 obtain ⟨v0,vs0,d0,ds0,p0,q0,hargs,rfl,rfl,h0,r0⟩:=trodAll_cons hA
 obtain ⟨v1,vs1,d1,ds1,p1,q1,rfl,rfl,rfl,h1,r1⟩:=trodAll_cons r0
 obtain ⟨rfl,rfl,rfl⟩:=trodAll_nil r1
 obtain rfl:args= #[v0,v1]:=by cases args;simp_all
 obtain ⟨rfl,rfl⟩:=trodVars_none hV
 obtain ⟨x0,_,hk0⟩:=rdBytes.one (fun l:List UInt8=> .vs l.length (F cU l)) (fun _=>rfl) (by rw [Tryz.underlying22]) (hval 0 22 v0 rfl rfl) h0
 obtain ⟨x1,rfl,_,_,_⟩:=ChangeMaps.open_string Tryz.underlying9 (hval 1 9 v1 rfl rfl) h1
 refine (law_calls (resolveComments_spec x0 x1) (vs:= #[v0,.string x1]) rfl ?_ (resolveComments_glob hL hS)).mono fun e W' ⟨he,hb⟩=> ?_
 ·intro i x v hx hv
  match i,hx,hv with
  |0,hx,hv=>simp at hx hv;subst hx hv;exact hk0
  |1,hx,hv=>simp at hx hv;subst hx hv;exact .pl _
  |i+2,hx,hv=>simp at hx
 ·subst he
  exact ⟨_,rfl,law_post (L:=[22,5,9]) (tb:=4) hW' rfl (by kernel_rfl) (by kernel_rfl) hb (by kernel_rfl) Tryz.underlying4 rfl⟩
theorem and_two {a b:Bool}(h:a=true)(k:b=true):(a&&b)=true:=by rw [h,k];rfl
set_option maxHeartbeats 4000000 in
set_option maxRecDepth 100000 in
theorem resolveComments_closed:joinedFacts Tryz.pinned.checked.prog 11 Tryz.f11 Rows.resolveCommentsSpec Rows.resolveCommentsRow=true:=by
 unfold joinedFacts
 repeat' (with_reducible refine and_two ?_ ?_)
 all_goals (as_aux_lemma=>kernel_rfl)
theorem resolveComments_row:Rows.ResolveCommentsSaid:=
 OpenClaim.holds_of_wide 11 Tryz.f11 rfl rfl rfl rfl rfl rfl rfl ⟨rfl,rfl,rfl,rfl,rfl⟩ rfl rfl rfl rfl rfl (by kernel_rfl) Tryz.func11 resolveComments_closed
  (of_decide_eq_true (by kernel_rfl)) (by unfold Func.isWrapper;first|(rw [if_pos (by decide+kernel)];kernel_rfl)|(rw [if_neg (by decide+kernel)];exact ⟨rfl,rfl⟩))
  (fun os started H enc _=>resolveComments_lifted os started H enc)
theorem resolveComments:Rows.ResolveCommentsCardSaid:=
 Claim7.holds_tied_plain_at .later [] [.data,.pinned] true (true,"38546202bee1a2b9fc40c611b4b27d55205ccb6aaa7a255f6cd0923044ef2e2d") true resolveComments_row (fun _ h=>by cases h) (by as_aux_lemma=>kernel_rfl) (fun _ h=>by cases h) resolveComments_row_tie rfl ⟨rfl,rfl⟩ (by as_aux_lemma=>kernel_rfl) rfl
  (fun f fn hf hfn=>by
   obtain rfl:f=11:=Option.some.inj ((show Tryz.prog.funcNamed "apostille/apostillelaw22.ResolveComments" =some 11 by as_aux_lemma=>kernel_rfl).symm.trans hf) |>.symm
   obtain rfl:fn=Tryz.f11:=(Option.some.inj (Tryz.func11.symm.trans hfn)).symm
   exact ⟨by as_aux_lemma=>kernel_rfl,fun j t ht=>by
    rw [Tryz.params11] at ht
    have hm:t∈[22,9]:=by simpa using Array.mem_of_getElem? ht
    have hall:([22,9].all fun u=> !Tryz.prog.wantsStandIn u)=true:=by as_aux_lemma=>kernel_rfl
    exact (show Tryz.prog.wantsStandIn t=false by simpa using List.all_eq_true.1 hall t hm)⟩)
  (by as_aux_lemma=>kernel_rfl)
end Go.Proofs.YtojbjdcflgeibaaGreatDoor
