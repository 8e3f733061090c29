/- MAPS THAT NOBODY WRITES, as values: a map of one's own is frozen; looks into a frozen one; the nil map. Generic over the program. Conditions: none. -/
import Derived.Test.YtojbjdcflgeibaaGreatDoorAbsM2
import Derived.Lib.Builder
import Derived.Lib.UnsafeStr
import Derived.Laws.Externs
import Derived.Lib.MakeNoZero
import Derived.Defers
import Derived.Shelf.Spec.SlicesInsertGrow
import Derived.ProofKit
import Derived.OpenShut
import Derived.ChangeStays
import Derived.Lib.LaidU8
import Derived.Shelf.Vars
import Derived.Handed
set_option linter.unusedVariables false
set_option linter.unusedSimpArgs false
set_option linter.unusedSectionVars false
namespace Go.Abs
open Go Go.RowKit Go.Proofs W
variable [GTab]
def frzM (b:Nat)(ks xs:List AV):AV→AV
 | .nptr z i o=>match Nat.beq i b with|true=> .gone|false=> .nptr z i o
 | .sl i o n=>match Nat.beq i b with|true=> .gone|false=> .sl i o n
 | .mp i=>match Nat.beq i b with|true=> .vm ks xs|false=> .mp i
 | .it i=>match Nat.beq i b with|true=> .gone|false=> .it i
 |x=>x
theorem Sat.frzM {c:Ctx}{T:List (Nat×AV)}{H:List (Nat×AObj)}{M:List Nat}{a:Act}{w:World}(h:Sat c ⟨T,H,M⟩ a w){b:Nat}{es:List (AV×AV)}(hb:hget H b=some (.map es)):
 Sat c ⟨mapT (Abs.frzM b (es.map (·.1)) (es.map (·.2))) T,mapH (Abs.frzM b (es.map (·.1)) (es.map (·.2))) (hdel H b),b::M⟩ a w:=by
 obtain ⟨β,hs⟩:=h;obtain ⟨p0,hp0,hro⟩:=hs.heap.obj b _ hb
 let β':Emb:=fun i=>if b=i then none else β i
 have hβ': ∀ i q,β' i=some q→b≠i∧β i=some q:=fun i q hq=>by
  by_cases e:b=i
  ·simp [β',e] at hq
  ·simp only [β',if_neg e] at hq;exact ⟨e,hq⟩
 have hβ: ∀ i q,i≠b→β i=some q→β' i=some q:=fun i q hi hq=>by show (if b=i then none else β i)=some q;rw [if_neg (Ne.symm hi)];exact hq
 have hO: ∀ k,off c.F β' k→off c.F β k∨w.heap.size≤k:=fun k hk=> .inl (hk.imp id (QB fun i p hp=>(hβ' i p hp).2))
 have hw: ∀ k,k<w.heap.size→ ¬ off c.F β k→w.heap[k]? =w.heap[k]? :=fun _ _ _=>rfl
 obtain ⟨hn,ms,ck,hheap,hlen,hent,hdist⟩:=hro
 have hoff: ¬ off c.F β' p0.blk:=by
  rintro (hF|⟨j,q,hq,hqn,hqb⟩)
  ·exact hs.heap.apart b p0 hp0 hn hF
  ·obtain ⟨h1,h2⟩:=hβ' j q hq;exact h1 (hs.heap.inj b j p0 q hp0 h2 hn hqn hqb.symm)
 have hvm:CRel (off c.F β') w (.vm (es.map (·.1)) (es.map (·.2))) (.map (some p0.blk)):=by
  have hget: ∀ {i:Nat} {e:MapEntry},ms[i]? =some e→ ∃ x,es[i]? =some x:=fun {i e} he=>by
   have:i<es.length:=by rw [hlen];exact (Array.getElem?_eq_some_iff.1 he).1
   exact ⟨_,List.getElem?_eq_getElem this⟩
  refine .vm ms ck hheap hoff (hs.heap.blk_lt hp0 hn) (by simpa using hlen) (by simpa using hlen) (fun i e he=> ?_) hdist (fun i x e hx he=> ?_) (fun i x e hx he=> ?_)
  ·obtain ⟨x,hx⟩:=hget he;exact (hent i x e hx he).2.2
  ·rw [List.getElem?_map,Option.map_eq_some_iff] at hx
   obtain ⟨y,hy,rfl⟩:=hx;exact (hent i y e hy he).1.mono (Nat.le_refl _) hO hw
  ·rw [List.getElem?_map,Option.map_eq_some_iff] at hx
   obtain ⟨y,hy,rfl⟩:=hx;exact (hent i y e hy he).2.1.mono (Nat.le_refl _) hO hw
 have hleaf: ∀ x v,x.leaf=true→VRel c.F β w x v→VRel c.F β' w (Abs.frzM b (es.map (·.1)) (es.map (·.2)) x) v:=by
  intro x v hx hv
  cases hv with
  | @ptr i o p hp hn=>
   simp only [Abs.frzM];split
   ·exact .gone
   ·rename_i e;exact .ptr (hβ _ _ (Nat.ne_of_beq_eq_false e) hp) hn
  | @pnil i o=>
   simp only [Abs.frzM];split
   ·exact .gone
   ·exact .pnil
  | @sl i o n cap p hp hn hcap hl=>
   simp only [Abs.frzM];split
   ·exact .gone
   ·rename_i e;exact .sl (hβ _ _ (Nat.ne_of_beq_eq_false e) hp) hn hcap hl
  | @slz i o a p hp ha=>
   simp only [Abs.frzM];split
   ·exact .gone
   ·rename_i e;exact .slz (hβ _ _ (Nat.ne_of_beq_eq_false e) hp) ha
  | @mp i p hp hn=>
   simp only [Abs.frzM];split
   ·rename_i e;obtain rfl:=Nat.eq_of_beq_eq_true e
    rw [hp0] at hp;cases hp
    exact .c hvm
   ·rename_i e;exact .mp (hβ _ _ (Nat.ne_of_beq_eq_false e) hp) hn
  | @it i p hp hn=>
   simp only [Abs.frzM];split
   ·exact .gone
   ·rename_i e;exact .it (hβ _ _ (Nat.ne_of_beq_eq_false e) hp) hn
  |c h=>cases h<;>cases hx
  |agg=>cases hx
  |tup=>cases hx
  |fn=>cases hx
  |ifc=>cases hx
  |anyp=>cases hx
  |junk=>cases hx
  |gone=>cases hx
 refine ⟨β',hs.defers,hs.size,⟨fun i ob hg=> ?_,fun i q hq=> ?_,fun i j q r hq hr=>hs.heap.inj i j q r (hβ' i q hq).2 (hβ' j r hr).2,hs.heap.fresh,fun i q hq=>hs.heap.apart i q (hβ' i q hq).2,hs.heap.glob.mono (Nat.le_refl _) hO hw⟩,fun i x hx=> ?_,?_,fun i q hq hm=> ?_⟩
 ·rw [hget_mapH,hget_hdel] at hg
  by_cases e:b=i
  ·rw [if_pos e] at hg;cases hg
  ·rw [if_neg e,Option.map_eq_some_iff] at hg
   obtain ⟨ob,ho,rfl⟩:=hg;obtain ⟨q,hq,hr⟩:=hs.heap.obj i ob ho;exact ⟨q,hβ i q (Ne.symm e) hq,hr.mapN (Nat.le_refl _) hO hw hleaf (fun _=>rfl)⟩
 ·obtain ⟨ob,ho⟩:=hs.heap.dom i q (hβ' i q hq).2;exact ⟨_,by rw [hget_mapH,hget_hdel,if_neg (hβ' i q hq).1,ho];rfl⟩
 ·rw [get_mapT,Option.map_eq_some_iff] at hx
  obtain ⟨y,hy,rfl⟩:=hx;obtain ⟨u,hu,hr⟩:=hs.slot i y hy;exact ⟨u,hu,hr.mapN (Nat.le_refl _) hO hw hleaf⟩
 ·exact ⟨hs.keeps.os,hs.keeps.tape,hs.keeps.output,hs.keeps.size,hs.keeps.block,fun k hk=>hs.keeps.grows k (QB (fun i p hp=>(hβ' i p hp).2) hk)⟩
 ·rw [mem_cons,Bool.or_eq_false_iff,decide_eq_false_iff_not] at hm
  exact hβ i q (Ne.symm hm.1) (hs.stay i q hq hm.2)
section
variable {c:Ctx} {s:St} {Q:Exit→Act→World→Prop} {T:List (Nat×AV)} {H:List (Nat×AObj)} {M:List Nat} {code:Code} {ops:Array Oper} {rest:List Oper} {hot:List Nat} {l:Plan} {i:Nat} {d:Tmp} {ty:TypeId} {pos:String} {af:Array Edge} {e:Exit} {g:Option (Nat×Bool)} {d':Option Tmp}
theorem MP_fst {κ ν:Type}{kv:κ→Value}{ev:ν→AV}(m:List (κ×ν)):(MP kv ev m).map (·.1)=m.map fun x=>AV.pl (kv x.1):=by simp [MP,List.map_map,Function.comp_def]
theorem MP_snd {κ ν:Type}{kv:κ→Value}{ev:ν→AV}(m:List (κ×ν)):(MP kv ev m).map (·.2)=m.map fun x=>ev x.2:=by simp [MP,List.map_map,Function.comp_def]
abbrev frzV {κ ν:Type}(b:Nat)(kv:κ→Value)(ev:ν→AV)(m:List (κ×ν)):AV→AV:=frzM b (m.map fun x=> .pl (kv x.1)) (m.map fun x=>ev x.2)
theorem Sat.frzV {κ ν:Type}{kv:κ→Value}{ev:ν→AV}{m:List (κ×ν)}{a:Act}{w:World}(h:Sat c ⟨T,H,M⟩ a w){b:Nat}(hb:hget H b=some (.map (MP kv ev m))):Sat c ⟨mapT (Abs.frzV b kv ev m) T,mapH (Abs.frzV b kv ev m) (hdel H b),b::M⟩ a w:=by
 have:=h.frzM hb
 rw [MP_fst,MP_snd] at this
 exact this
theorem f_frzm {κ ν:Type}{kv:κ→Value}{ev:ν→AV}{m:List (κ×ν)}(b:Nat)(h:Fin c Q e ⟨mapT (frzV b kv ev m) T,mapH (frzV b kv ev m) (hdel H b),b::M⟩)(hb:hget H b=some (.map (MP kv ev m)):=by exact rfl):Fin c Q e ⟨T,H,M⟩:=fun a w hs=>h a w (hs.frzV hb)
abbrev vM {κ ν:Type}(kv:κ→Value)(ev:ν→AV)(m:List (κ×ν)):AV:= .vm (m.map fun x=> .pl (kv x.1)) (m.map fun x=>ev x.2)
theorem CRel.vm_inv {O:Nat→Prop}{w:World}{ks xs:List AV}{v:Value}(h:CRel O w (.vm ks xs) v):(v= .map none∧ks=[]∧xs=[])∨ ∃ (b:Nat) (ms:Array MapEntry) (ck:Nat),v= .map (some b)∧w.heap[b]? =some (.map ms ck)∧b<w.heap.size∧ks.length=ms.size∧xs.length=ms.size∧
 (∀ (i:Nat) (x:AV) (e:MapEntry),ks[i]? =some x→ms[i]? =some e→CRel O w x e.key)∧(∀ (i:Nat) (x:AV) (e:MapEntry),xs[i]? =some x→ms[i]? =some e→CRel O w x e.val):=by
 cases h with
 |vm0=>exact .inl ⟨rfl,rfl,rfl⟩
 |vm ms ck hh ho hb hlk hlx hbn hd hk hx=>exact .inr ⟨_,ms,ck,rfl,hh,hb,hlk,hlx,hk,hx⟩
theorem VRel.vm_c {F:Nat→Prop}{β:Emb}{w:World}{ks xs:List AV}{v:Value}(h:VRel F β w (.vm ks xs) v):CRel (off F β) w (.vm ks xs) v:=by
 cases h with
 |c h=>exact h
section
variable {κ ν:Type} [DecidableEq κ] {kd:TypeDesc} {kv:κ→Value} {ev:ν→AV}
theorem vm_keys {O:Nat→Prop}{w:World}{m:List (κ×ν)}{ms:Array MapEntry}(hl:(m.map fun x=>AV.pl (kv x.1)).length=ms.size)
 (h: ∀ (i:Nat) (x:AV) (e:MapEntry),(m.map fun x=>AV.pl (kv x.1))[i]? =some x→ms[i]? =some e→CRel O w x e.key):ms.toList.map (·.key)=m.map fun x=>kv x.1:=by
 apply List.ext_getElem?
 intro i
 rw [List.getElem?_map,List.getElem?_map,Array.getElem?_toList]
 by_cases hi:i<m.length
 ·have hi2:i<ms.size:=by rw [←hl];simpa using hi
  rw [List.getElem?_eq_getElem hi,Array.getElem?_eq_getElem hi2]
  have:=h i (AV.pl (kv m[i].1)) ms[i] (by simp [hi]) (Array.getElem?_eq_getElem hi2)
  simp only [Option.map_some]
  rw [CRel.pl_eq this]
 ·rw [List.getElem?_eq_none (by omega),Array.getElem?_eq_none (by rw [←hl];simpa using hi)];rfl
def vgetR:Bool→AV→Bool→AV
 |true,x,b=> .tup [x,.pl (.bool b)]
 |false,x,_=>x
theorem q_vget (ok:Bool)(K:KeyK κ kd kv){t kt et:TypeId}{x y:Operand}{m:List (κ×ν)}{k:κ}{z:ν}{ti ki ei:TI}(ht:tget c.U t=some ti)(htd:ti.desc= .map kt et)(hkt:tget c.U kt=some ki)(hkd:ki.desc=kd)(het:tget c.U et=some ei)
 (hx:opv s.T x=some (vM kv ev m)) (hy:opv s.T y=some (.pl (kv k))) (hz:ofVal ei.zero=ev z):
 QOp c ⟨d',.lookup t x y ok,ty,pos,af,g⟩ s (vgetR ok (ev ((mget m k).getD z)) (mget m k).isSome):=by
 intro a w β hs
 have hu:c.P.underlying t=some (.map kt et):=(zx ht).trans (congrArg some htd)
 have huk:c.P.underlying kt=some kd:=(zx hkt).trans (congrArg some hkd)
 obtain ⟨i,hi,hi1,hi2,hi3⟩:=ty_info het
 have tupR: ∀ {u:Value} {q:Bool},VRel c.F β w (ev ((mget m k).getD z)) u→(mget m k).isSome=q→VRel c.F β w (vgetR ok (ev ((mget m k).getD z)) (mget m k).isSome) (if ok then .tuple #[u,.bool q] else u):=fun {u q} hu hq=>by
  cases ok with
  |false=>exact hu
  |true=>
  refine .tup rfl fun i y v hy hv=> ?_
  match i,hy,hv with
  |0,hy,hv=>simp at hy hv;subst hy hv;exact hu
  |1,hy,hv=>simp at hy hv;subst hy hv;rw [hq];exact .c (.pl _)
  |i+2,hy,hv=>simp at hy
 have hzr:VRel c.F β w (ev z) ei.zero:=by rw [←hz];exact .c (CRel.ofVal _ _ _)
 rcases (hs.op hx).vm_c.vm_inv with ⟨hv,hk0,hx0⟩|⟨b,ms,ck,hv,hheap,hlt,hlk,hlx,hk,hxs⟩
 ·have hm:m=[]:=by simpa using hk0
  subst hm
  refine ⟨if ok then .tuple #[ei.zero,.bool false] else ei.zero,tupR hzr rfl,fun w' hbl=> ?_⟩
  have h1:Instr.findNow kd (kv k) [] 0=some none:=rfl
  simp [execOp,Instr.lookup,hv,hs.pl hy,run_underlying hu,K.check _ _ _ huk,Instr.findKey,h1,run_underlying huk,zeroValue,typeInfo,hi,hi3,Result.andThen]
 have hkeys:=vm_keys hlk hk
 rcases findNow_eq K k m ms.toList 0 hkeys with ⟨j,e,h1,h2,⟨v,h3,h4⟩,_⟩|⟨h1,h2,_⟩
 ·refine ⟨if ok then .tuple #[e.val,.bool true] else e.val,tupR ?_ (by rw [h4];rfl),fun w' hbl=> ?_⟩
  ·rw [h4]
   exact .c (hxs j (ev v) e (by rw [List.getElem?_map,h3];rfl) (by simpa using h2))
  ·have hw':w'.heap[b]? =some (.map ms ck):=by rw [hbl.block b hlt];exact hheap
   simp [execOp,Instr.lookup,hv,hs.pl hy,run_underlying hu,run_getMap hw',K.check _ _ _ huk,Instr.findKey,run_underlying huk,h1,Result.andThen]
 ·refine ⟨if ok then .tuple #[ei.zero,.bool false] else ei.zero,tupR (by rw [h2];exact hzr) (by rw [h2];rfl),fun w' hbl=> ?_⟩
  have hw':w'.heap[b]? =some (.map ms ck):=by rw [hbl.block b hlt];exact hheap
  simp [execOp,Instr.lookup,hv,hs.pl hy,run_underlying hu,run_getMap hw',K.check _ _ _ huk,Instr.findKey,run_underlying huk,h1,zeroValue,typeInfo,hi,hi3,Result.andThen]
theorem l_vget (K:KeyK κ kd kv){m:List (κ×ν)}{k:κ}(z:ν){t kt et:TypeId}{x y:Operand}{ti ki ei:TI}(hn:RunL c ops Q rest ⟨(d,.tup [ev ((mget m k).getD z),B (mget m k).isSome])::T,H,M⟩)(ht:tget c.U t=some ti:=by exact rfl)(htd:ti.desc= .map kt et:=by exact rfl)(hkt:tget c.U kt=some ki:=by exact rfl)(hkd:ki.desc=kd:=by exact rfl)(het:tget c.U et=some ei:=by exact rfl)
 (hx:opv T x=some (vM kv ev m):=by exact rfl) (hy:opv T y=some (.pl (kv k)):=by exact rfl) (hz:ofVal ei.zero=ev z:=by exact rfl) (hdo:dstOk c.N (some d)=true:=by exact rfl):
 RunL c ops Q (⟨some d,.lookup t x y true,ty,pos,af,none⟩::rest) ⟨T,H,M⟩:=qi (s:=⟨T,H,M⟩) (q_vget true K ht htd hkt hkd het hx hy hz) rfl hdo hn
theorem q_lookupG (ok:Bool)(K:KeyK κ kd kv){t kt et:TypeId}{x y:Operand}{b:Nat}{m:List (κ×ν)}{k:κ}{z:ν}{ti ki ei:TI}(ht:tget c.U t=some ti)(htd:ti.desc= .map kt et)(hkt:tget c.U kt=some ki)(hkd:ki.desc=kd)(het:tget c.U et=some ei)
 (hx:opv s.T x=some (.mp b)) (hb:hget s.H b=some (.map (m.map fun x=>(AV.pl (kv x.1),ev x.2)))) (hy:opv s.T y=some (.pl (kv k))) (hz:ofVal ei.zero=ev z):
 QOp c ⟨d',.lookup t x y ok,ty,pos,af,g⟩ s (vgetR ok (ev ((mget m k).getD z)) (mget m k).isSome):=by
 intro a w β hs
 have hu:c.P.underlying t=some (.map kt et):=(zx ht).trans (congrArg some htd)
 have huk:c.P.underlying kt=some kd:=(zx hkt).trans (congrArg some hkd)
 obtain ⟨i,hi,hi1,hi2,hi3⟩:=ty_info het;obtain ⟨p,hp,hn,hv⟩:=(hs.op hx).mp_inv;obtain ⟨p',hp',hr⟩:=hs.heap.obj b _ hb
 rw [hp] at hp';cases hp'
 obtain ⟨_,ms,ck,hheap,hlen,hent,_⟩:=hr
 have hlt:p.blk<w.heap.size:=(Array.getElem?_eq_some_iff.1 hheap).1
 have hkeys:=ent_keys hlen hent
 have tupR: ∀ {u:Value} {q:Bool},VRel c.F β w (ev ((mget m k).getD z)) u→(mget m k).isSome=q→VRel c.F β w (vgetR ok (ev ((mget m k).getD z)) (mget m k).isSome) (if ok then .tuple #[u,.bool q] else u):=fun {u q} hu hq=>by
  cases ok with
  |false=>exact hu
  |true=>
  refine .tup rfl fun i y v hy hv=> ?_
  match i,hy,hv with
  |0,hy,hv=>simp at hy hv;subst hy hv;exact hu
  |1,hy,hv=>simp at hy hv;subst hy hv;rw [hq];exact .c (.pl _)
  |i+2,hy,hv=>simp at hy
 rcases findNow_eq K k m ms.toList 0 hkeys with ⟨j,e,h1,h2,⟨v,h3,h4⟩,_⟩|⟨h1,h2,_⟩
 ·refine ⟨if ok then .tuple #[e.val,.bool true] else e.val,tupR ?_ (by rw [h4];rfl),fun w' hbl=> ?_⟩
  ·rw [h4]
   exact .c (hent j (AV.pl (kv k),ev v) e (by rw [List.getElem?_map,h3];rfl) (by simpa using h2)).2.1
  ·have hw':w'.heap[p.blk]? =some (.map ms ck):=by rw [hbl.block p.blk hlt];exact hheap
   simp [execOp,Instr.lookup,hv,hs.pl hy,run_underlying hu,run_getMap hw',K.check _ _ _ huk,Instr.findKey,run_underlying huk,h1,Result.andThen]
 ·refine ⟨if ok then .tuple #[ei.zero,.bool false] else ei.zero,tupR ?_ (by rw [h2];rfl),fun w' hbl=> ?_⟩
  ·rw [h2]
   show VRel c.F β w (ev z) ei.zero
   rw [←hz]
   exact .c (CRel.ofVal _ _ _)
  ·have hw':w'.heap[p.blk]? =some (.map ms ck):=by rw [hbl.block p.blk hlt];exact hheap
   simp [execOp,Instr.lookup,hv,hs.pl hy,run_underlying hu,run_getMap hw',K.check _ _ _ huk,Instr.findKey,run_underlying huk,h1,zeroValue,typeInfo,hi,hi3,Result.andThen]
theorem l_mget1 (K:KeyK κ kd kv){m:List (κ×ν)}{k:κ}(z:ν){t kt et:TypeId}{x y:Operand}{b:Nat}{ti ki ei:TI}(hn:RunL c ops Q rest ⟨(d,ev ((mget m k).getD z))::T,H,M⟩)(ht:tget c.U t=some ti:=by exact rfl)(htd:ti.desc= .map kt et:=by exact rfl)(hkt:tget c.U kt=some ki:=by exact rfl)(hkd:ki.desc=kd:=by exact rfl)(het:tget c.U et=some ei:=by exact rfl)
 (hx:opv T x=some (.mp b):=by exact rfl) (hb:hget H b=some (.map (MP kv ev m)):=by exact rfl) (hy:opv T y=some (.pl (kv k)):=by exact rfl) (hz:ofVal ei.zero=ev z:=by exact rfl) (hdo:dstOk c.N (some d)=true:=by exact rfl):
 RunL c ops Q (⟨some d,.lookup t x y false,ty,pos,af,none⟩::rest) ⟨T,H,M⟩:=qi (s:=⟨T,H,M⟩) (q_lookupG false K ht htd hkt hkd het hx hb hy hz) rfl hdo hn
theorem n_mget (K:KeyK κ kd kv){m:List (κ×ν)}{k:κ}(z:ν){t kt et:TypeId}{x y:Operand}{b:Nat}{ti ki ei:TI}(hn:RunM c ops hot Q l ⟨(d,.tup [ev ((mget m k).getD z),B (mget m k).isSome])::T,H,M⟩)(ht:tget c.U t=some ti:=by exact rfl)(htd:ti.desc= .map kt et:=by exact rfl)(hkt:tget c.U kt=some ki:=by exact rfl)(hkd:ki.desc=kd:=by exact rfl)(het:tget c.U et=some ei:=by exact rfl)
 (hx:opv T x=some (.mp b):=by exact rfl) (hb:hget H b=some (.map (MP kv ev m)):=by exact rfl) (hy:opv T y=some (.pl (kv k)):=by exact rfl) (hz:ofVal ei.zero=ev z:=by exact rfl) (hdo:dstOk c.N (some d)=true:=by exact rfl):
 RunN c ops hot Q i false ⟨some d,.lookup t x y true,ty,pos,af,none⟩ l ⟨T,H,M⟩:=ZA (s:=⟨T,H,M⟩) (q_lookupG true K ht htd hkt hkd het hx hb hy hz) rfl hdo hn
theorem n_mupd (K:KeyK κ kd kv){m:List (κ×ν)}{k:κ}(v:ν){t kt et:TypeId}{x y z:Operand}{b:Nat}{ti ki:TI}(hn:RunM c ops hot Q l ⟨T,hset H b (.map (MP kv ev (mput m k v))),M⟩)(ht:tget c.U t=some ti:=by exact rfl)(htd:ti.desc= .map kt et:=by exact rfl)(hkt:tget c.U kt=some ki:=by exact rfl)(hkd:ki.desc=kd:=by exact rfl)
 (hx:opv T x=some (.mp b):=by exact rfl) (hb:hget H b=some (.map (MP kv ev m)):=by exact rfl) (hy:opv T y=some (.pl (kv k)):=by exact rfl) (hz:opv T z=some (ev v):=by exact rfl) (hcl:(ev v).closed=true:=by exact rfl) (hh:mem i hot=true:=by exact rfl):
 RunN c ops hot Q i true ⟨none,.mapUpdate t x y z,ty,pos,af,none⟩ l ⟨T,H,M⟩:=RunN_e (s:=⟨T,H,M⟩) hh (e_mapUpdate K _ (.inl rfl) ht htd hkt hkd hx hb hy hz hcl rfl) rfl hn
end
end
end Go.Abs
namespace Go.Abs
open Go Go.RowKit Go.Proofs W
variable [GTab]
section
variable {c:Ctx} {s:St} {Q:Exit→Act→World→Prop} {T:List (Nat×AV)} {H:List (Nat×AObj)} {M:List Nat} {ops:Array Oper} {rest:List Oper} {d d2:Tmp} {ty ty2:TypeId} {pos pos2:String} {af af2:Array Edge}
theorem run_markOwn {P:Program}(w:World)(C:Array Value)(e src:TypeId)(he:P.underlying e=some (.int .u8))(hs:P.underlying src=some (.slice e))(n m:Nat):
 (convert src src (.slice (some ⟨w.heap.size,0,none⟩) n m)).run P (w.alloc (.cells C e (0,0)))= .ok (.slice (some ⟨w.heap.size,0,none⟩) n m) (w.alloc (.cells C e (C.size,C.size+1))):=by
 have hsh:(w.alloc (.cells C e (0,0))).shape? w.heap.size=some (e,C.size):=by
  have:(w.alloc (.cells C e (0,0))).heap[w.heap.size]? =some (.cells C e (0,0)):=qJ _ _
  unfold World.shape?
  rw [this]
 have hfr:(w.alloc (.cells C e (0,0))).freeze ⟨w.heap.size,C.size,none⟩ 1=w.alloc (.cells C e (C.size,C.size+1)):=by
  have hm: ∀ (a:Array Obj) (x:Obj) (f:Obj→Obj),(a.push x).modify a.size f=a.push (f x):=by
   intro a x f
   apply Array.ext
   ·simp
   ·intro i h1 h2
    rw [Array.getElem_modify,Array.getElem_push,Array.getElem_push]
    simp only [Array.size_push] at h2
    by_cases hi:i<a.size
    ·rw [if_neg (by omega),dif_pos hi,dif_pos hi]
    ·rw [if_pos (by omega),dif_neg hi,dif_neg hi]
  unfold World.freeze World.alloc
  simp [hm]
 simp [convert,run_underlying hs,run_underlying he,markStringish,shape,freeze,Sem.run,hsh,hfr,Result.andThen]
theorem l_litb (l:Str){t:TypeId}{n:Nat}{parts:Array (Nat×Operand)}{ti ei:TI}{e:TypeId}
 (hnext:RunL c ops Q rest ⟨(d2,.sl (nm (some d)) 0 l.length)::(d,.sl (nm (some d)) 0 l.length)::T,(nm (some d),.row e 1 0 (F cU l))::H,M⟩)
 (ht:tget c.U t=some ti:=by exact rfl) (htd:ti.desc= .slice e:=by exact rfl) (he:tget c.U e=some ei:=by exact rfl) (hed:ei.desc= .int .u8:=by exact rfl) (hk:ei.size=1:=by exact rfl) (hzs:ei.zero.cells.size=1:=by exact rfl)
 (hparts:seqB 0 parts.toList=true:=by exact rfl) (hn:parts.toList.length=n:=by exact rfl) (hl:l.length=n:=by exact rfl) (hn0:Nat.blt 0 n=true:=by exact rfl) (hx:opvL T (parts.toList.map (·.2))=some (F cU l):=by exact rfl) (hview:GTab.view e=true:=by exact rfl) (hlim:Nat.ble n (2^24)=true:=by exact rfl)
 (hb:hget H (nm (some d))=none:=by exact rfl) (hdo:dstOk c.N (some d)=true:=by exact rfl) (hdo2:dstOk c.N (some d2)=true:=by exact rfl):
 RunL c ops Q (⟨some d,.buildSlice t n parts,ty,pos,af,none⟩::⟨some d2,.convert t t (.tmp d),ty2,pos2,af2,none⟩::rest) ⟨T,H,M⟩:=by
 rintro a w ⟨β,hs⟩
 have hu:c.P.underlying t=some (.slice e):=(zx ht).trans (congrArg some htd)
 have hue:c.P.underlying e=some (.int .u8):=(zx he).trans (congrArg some hed)
 have hA:=opvL_get hs hx
 have hcl:cellsL (F cU l)=F cU l:=by
  clear hx hA hnext hl
  induction l with
  |nil=>rfl
  |cons x r ih=>exact congrArg (cU x++ ·) ih
 have hfit:fitAll 1 (F cU l)=true:=by
  clear hx hA hnext hl hcl
  induction l with
  |nil=>rfl
  |cons x r ih=>exact ih
 obtain ⟨h1,h2,h3⟩:=cellsL_spec hfit hA
 rw [hcl] at h2 h3
 generalize hxs:parts.toList.map (·.2)=xs at*
 have hxl:xs.length=n:=by rw [←hxs];simpa using hn
 have hlen:(xs.map a.eval).length=n:=by simpa using hxl
 have hnp:0<n:=Nat.le_of_ble_eq_true hn0
 have hrun:=run_buildSlice (P:=c.P) (w:=w) (t:=t) (vs:=xs.map a.eval) (by rw [ty_desc ht,htd]) (by rw [QS he,hk]) (ty_zero he w) hzs (Nat.zero_lt_one) h1 (by rw [hlen,Nat.mul_one];exact Nat.le_of_ble_eq_true hlim) (by intro h;rw [h] at hlen;simp at hlen;omega)
 rw [hlen] at hrun
 generalize hC:((xs.map a.eval).flatMap (·.cells.toList)).toArray=C at hrun
 have hCs:C.size=n:=by
  rw [←hC]
  have: ∀ vs:List Value,(∀ u∈vs,u.cells.size=1)→(vs.flatMap (·.cells.toList)).length=vs.length:=by
   intro vs
   induction vs with
   |nil=>intro _;rfl
   |cons v r ih=>intro h;rw [List.flatMap_cons,List.length_append,ih (fun u hu=>h u (by simp [hu])),Array.length_toList,h v (by simp),List.length_cons];omega
  simpa [hlen] using this _ h1
 have hlF:(F cU l).length=l.length:=by
  clear hx hA hnext hl hcl hfit h2 h3
  induction l with
  |nil=>rfl
  |cons x r ih=>exact congrArg (· +1) ih
 let p:Place:=⟨w.heap.size,0,C.size,1,false⟩
 have hro:ORel c.F (upd β (nm (some d)) p) (w.alloc (.cells C e (C.size,C.size+1))) p (.row e 1 0 (F cU l)):=by
  refine ⟨rfl,(fun h=>by cases h),fun _=>⟨C,_,⟨qJ _ _,fun hv=>by rw [hview] at hv;cases hv⟩,rfl,by rw [hlF,hl,hCs];show 0+n≤n;omega,fun i y hy=> ?_,fun o ho h1 h2=>absurd ho (Nat.not_lt.2 h1)⟩⟩;obtain ⟨u,hu,hr,h⟩:=h3 i y hy
  have hy': ∃ b,y=U b:=by
   have: ∀ (l:Str) (i:Nat),(F cU l)[i]? =some y→ ∃ b,y=U b:=by
    intro l
    induction l with
    |nil=>intro i h;simp [F] at h
    |cons x r ih=>
     intro i h
     cases i with
     |zero=>exact ⟨x,by simpa [F,cU] using h.symm⟩
     |succ i=>exact ih i (by simpa [F,cU] using h)
   exact this l i hy
  obtain ⟨b,rfl⟩:=hy';refine ⟨u,?_,?_,h⟩
  ·show C[0+i]? =some u
   rw [Nat.zero_add,←hC];simpa using hu
  ·rw [CRel.pl_eq hr]
   exact .pl _
 have hs2:=hs.newobj (w':=w.alloc _) hb p (.inl rfl) (fun _=>⟨Nat.le_refl _,(by show w.heap.size<(w.heap.push _).size;rw [Array.size_push];exact Nat.lt_succ_self _)⟩) (But.alloc _ _) hro
 have hvr: ∀ w',VRel c.F (upd β (nm (some d)) p) w' (.sl (nm (some d)) 0 l.length) (.slice (some ⟨w.heap.size,0,none⟩) n n):=fun w'=>by
  rw [hl]
  exact .sl (p:=p) (ZD _ _ _) rfl (Nat.le_refl _) (by show 0+0+n*1≤C.size;omega)
 have hs3:=(hs2.put hdo (hvr _)).put hdo2 (hvr _)
 have hp:parts.map (fun (i,x)=>(i,a.eval x))=(enumV 0 (xs.map a.eval)).toArray:=by
  rw [←enumO_map,←hxs,←enumO_of _ _ hparts]
  apply Array.toList_inj.1
  simp
 refine wpList_plain rfl fun K hK=> ?_;unfold Oper.wp
 have hr1:(execOp a.eval ⟨some d,.buildSlice t n parts,ty,pos,af,none⟩).run c.P w= .ok (.value (.slice (some ⟨w.heap.size,0,none⟩) n n)) (w.alloc (.cells C e (0,0))):=by
  simp only [execOp,hp]
  simp [hrun]
 rw [hr1,Oper.upon_value]
 refine hK _ _ (wpList_plain rfl fun K2 hK2=> ?_);unfold Oper.wp
 have hev:(a.put (some d) (.slice (some ⟨w.heap.size,0,none⟩) n n)).eval (.tmp d)= .slice (some ⟨w.heap.size,0,none⟩) n n:=by
  have hlt:d<a.tmps.size:=by rw [hs.size];simpa [dstOk,Nat.blt_eq] using hdo
  simp [Act.eval,Act.put,hlt]
 have hr2:(execOp (a.put (some d) (.slice (some ⟨w.heap.size,0,none⟩) n n)).eval ⟨some d2,.convert t t (.tmp d),ty2,pos2,af2,none⟩).run c.P (w.alloc (.cells C e (0,0)))= .ok (.value (.slice (some ⟨w.heap.size,0,none⟩) n n)) (w.alloc (.cells C e (C.size,C.size+1))):=by
  simp only [execOp,hev,Sem.run_bind,run_markOwn w C e t hue hu,Result.andThen_ok,Sem.run_pure]
 rw [hr2,Oper.upon_value]
 exact hK2 _ _ (hnext _ _ ⟨_,hs3⟩)
end
section
variable {c:Ctx} {s:St} {d:Option Tmp} {ty:TypeId} {pos:String} {af:Array Edge} {g:Option (Nat×Bool)}
end
section
variable {c:Ctx} {Q:Exit→Act→World→Prop} {T:List (Nat×AV)} {H:List (Nat×AObj)} {M:List Nat} {ops:Array Oper} {rest:List Oper} {d:Tmp} {ty:TypeId} {pos:String} {af:Array Edge}
end
end Go.Abs
namespace Go.Abs
open Go Go.RowKit Go.Proofs W
variable [GTab]
section
variable {c:Ctx} {s:St} {d:Option Tmp} {ty:TypeId} {pos:String} {af:Array Edge} {g:Option (Nat×Bool)}
theorem shape_of {w:World}{blk:Nat}{te:TypeId}{cv:Array Value}{fr:Nat×Nat}(h:CellsAt w blk te cv fr):w.shape? blk=some (te,cv.size):=by
 replace h:=h.1
 unfold World.shape?
 rw [h]
theorem q_tounsafe {src dst u:TypeId}{x:Operand}{b o:Nat}{cs:List AV}{tb:TypeId}{ts td tu:TI}(h1:tget c.U src=some ts)(hd1:ts.desc= .pointer u)(h2:tget c.U dst=some td)(hd2:td.desc= .unsafePointer)(h3:tget c.U u=some tu)(hsz:Nat.blt 0 tu.size=true)
 (hx:opv s.T x=some (.ptr b o)) (hb:hget s.H b=some (.box tb cs)) (ho:Nat.blt o cs.length=true):QOp c ⟨d,.convert src dst x,ty,pos,af,g⟩ s (.ptr b o):=by
 intro a w β hs
 have hu1:c.P.underlying src=some (.pointer u):=(zx h1).trans (congrArg some hd1)
 have hu2:c.P.underlying dst=some .unsafePointer:=(zx h2).trans (congrArg some hd2)
 obtain ⟨i,hi,hi1,_⟩:=ty_info h3;obtain ⟨p,hp,hn,hv⟩:=(hs.op hx).ptr_inv;obtain ⟨p',hp',hr⟩:=hs.heap.obj b _ hb
 rw [hp] at hp';cases hp'
 obtain ⟨_,cv,fr,hcv,⟨hst,hlen⟩,_⟩:=hr
 have ho:=Nat.le_of_ble_eq_true ho
 have hsz:=Nat.le_of_ble_eq_true hsz
 refine ⟨_,hs.op hx,fun w' hb'=> ?_⟩
 have hcv':CellsAt w' p.blk tb cv fr:=⟨(hb'.block p.blk (hs.heap.blk_lt hp hn)).trans hcv.1,hcv.2⟩
 have hrun:=Lib.run_to_unsafe (P:=c.P) w' (src:=src) (dst:=dst) ⟨p.blk,p.st+o,none⟩ hu1 hu2 hi (by omega) (shape_of hcv') (by show p.st+o<cv.size;omega)
 rw [hv]
 simp [execOp,hv,hrun]
theorem q_fromunsafe {src dst u:TypeId}{x:Operand}{b o:Nat}{cs:List AV}{tb:TypeId}{ts td tu:TI}(h1:tget c.U src=some ts)(hd1:ts.desc= .unsafePointer)(h2:tget c.U dst=some td)(hd2:td.desc= .pointer u)(h3:tget c.U u=some tu)
 (hx:opv s.T x=some (.ptr b o)) (hb:hget s.H b=some (.box tb cs)) (hlies:liesAt c.P c.P.depth tb (cs.length / c.P.cellsOf tb) o u 1=true):QOp c ⟨d,.convert src dst x,ty,pos,af,g⟩ s (.ptr b o):=by
 intro a w β hs
 have hu1:c.P.underlying src=some .unsafePointer:=(zx h1).trans (congrArg some hd1)
 have hu2:c.P.underlying dst=some (.pointer u):=(zx h2).trans (congrArg some hd2)
 obtain ⟨i,hi,hi1,_⟩:=ty_info h3;obtain ⟨p,hp,hn,hv⟩:=(hs.op hx).ptr_inv;obtain ⟨p',hp',hr⟩:=hs.heap.obj b _ hb
 rw [hp] at hp';cases hp'
 obtain ⟨_,cv,fr,hcv,⟨hst,hlen⟩,_⟩:=hr;refine ⟨_,hs.op hx,fun w' hb'=> ?_⟩
 have hcv':CellsAt w' p.blk tb cv fr:=⟨(hb'.block p.blk (hs.heap.blk_lt hp hn)).trans hcv.1,hcv.2⟩
 have hrun:=Lib.run_from_unsafe (P:=c.P) w' (src:=src) (dst:=dst) ⟨p.blk,p.st+o,none⟩ hu1 hu2 hi (shape_of hcv') (by rw [hst,Nat.zero_add,←hlen];exact hlies)
 rw [hv]
 simp [execOp,hv,hrun]
theorem q_neqself {t t' u:TypeId}{x y:Operand}{b o:Nat}{ti tu:TI}(ht:tget c.U t=some ti)(htd:ti.desc= .pointer u)(hu:tget c.U u=some tu)(hx:opv s.T x=some (.ptr b o))(hy:opv s.T y=some (.ptr b o)):
 QOp c ⟨d,.binOp .neq t x y t',ty,pos,af,g⟩ s (.pl (.bool false)):=by
 intro a w β hs
 have hu1:c.P.underlying t=some (.pointer u):=(zx ht).trans (congrArg some htd)
 obtain ⟨i,hi,_⟩:=ty_info hu;obtain ⟨p,hp,hn,hv⟩:=(hs.op hx).ptr_inv;obtain ⟨p',hp',_,hv'⟩:=(hs.op hy).ptr_inv
 rw [hp] at hp';cases hp'
 refine ⟨_,.c (.pl _),fun w' _=> ?_⟩
 simp [execOp,eqGuard,hv,hv',Lib.run_neq_ptr_same (P:=c.P) w' ⟨p.blk,p.st+o,none⟩ hu1 hi]
theorem noEscape_spec {P:Program}{k:FuncId}{fn:Func}(hf:P.funcs[k]? =some fn)(x:AV)(hname:(fn.name== "runtime.NumGoroutine")=false:=by kernel_rfl)(hb:fn.body.isNone=true:=by kernel_rfl)(hn:Extern.findNext fn=none:=by kernel_rfl)
 (hE:Extern.find fn=some Extern.AbiNoEscape.same:=by kernel_rfl):NSpec P k [x] x:=by
 intro F β w vs hA
 obtain ⟨hl,h⟩:=hA
 match vs,hl,h with
 |[v],_,h=>
  refine ⟨v,h 0 _ _ rfl rfl,fun w'=> ?_⟩
  rw [run_callFunc_extern hf hname hb hn hE,Lib.run_noEscape (P:=P) w' v]
  simp [Result.andThen]
end
theorem liesAt_bytes' {P:Program}{e:TypeId}(hc:P.cellsOf e=1)(count off n:Nat)(hn:off+n≤count):liesAt P P.depth e count off e n=true:=by
 have hd:P.depth=(2*(P.types.size+Made.depth)+1)+1:=rfl
 rw [hd]
 simp only [liesAt,Bool.or_eq_true]
 left
 rw [hd]
 simp [rowAt,hc,hn,sameLayout,Nat.mod_one]
theorem run_ustr {P:Program}{w:World}(pt it ty e:TypeId)(hp:P.underlying pt=some (.pointer e))(hc:P.cellsOf e=1)(g o cells:Nat)(hsh:w.shape? g=some (e,cells))(l:List UInt8)(h0:l≠[])(hn:o+l.length≤cells)(h63:l.length≤9223372036854775807)
 (hcell: ∀ j x,l[j]? =some x→w.cell? ((⟨g,o,none⟩:Addr).add j)=some (.int .u8 x.toNat)):
 (Builtin.unsafeString_ #[pt,it] ty #[.pointer (some ⟨g,o,none⟩),.int .i64 l.length]).run P w= .ok (.string ⟨l.toArray⟩) (w.freeze ⟨g,o,none⟩ l.length):=by
 have hl:l.length≠0:=by simpa using h0
 have hlb:=Lib.run_loadBytes (P:=P) w l ⟨g,o,none⟩ .empty hcell
 have hlies:=liesAt_bytes' (P:=P) hc (cells / P.cellsOf e) o l.length (by rw [hc];simpa using hn)
 have h63': ¬ (9223372036854775807:Int)<(l.length:Int):=by omega
 have hdef:Builtin.unsafeString_ #[pt,it] ty #[.pointer (some ⟨g,o,none⟩),.int .i64 l.length]=
  (do
   let n←asInt (.int .i64 l.length)
   if n<0 then runtimePanic (.error "unsafe.String: len out of range")
   if n>IntKind.i64.max then unsupported (.unsafePointer "String: a length above the largest int")
   if n=0 then pure (.string .empty)
   else if←variablesAt ⟨g,o,none⟩ (←elemOf pt) n.toNat then do
    let s←loadBytes ⟨g,o,none⟩ .empty n.toNat
    freeze ⟨g,o,none⟩ n.toNat
    pure (.string s)
   else unsupported (.unsafePointer "String: not so many bytes at ptr")):=rfl
 rw [hdef]
 have hmax:IntKind.i64.max=9223372036854775807:=rfl
 have hneg: ¬ (l.length:Int)<0:=by omega
 simp [asInt,asIntOf,hmax,h63',hneg,hl,variablesAt,hsh,elemOf,run_underlying hp,hlies,hlb]
theorem But.freeze (w:World)(a:Addr)(n:Nat):But w (w.freeze a n) (· =a.block):=by
 unfold World.freeze
 split
 ·exact ⟨rfl,⟨rfl,Nat.le_refl _⟩,rfl,Nat.le_refl _,fun _ _ _=>rfl⟩
 ·exact ⟨rfl,⟨rfl,Nat.le_refl _⟩,rfl,by simp,fun k hk hne=>by
   simp only [Array.getElem?_modify]
   rw [if_neg (Ne.symm hne)]⟩
mutual
theorem AV.kill_kill (b:Nat): ∀ x:AV,(x.kill b).kill b=x.kill b
 | .agg cs=>by simp only [AV.kill,AV.killL_killL b cs]
 | .tup cs=>by simp only [AV.kill,AV.killL_killL b cs]
 | .fn f cs ds=>by simp only [AV.kill,AV.killL_killL b cs,AV.killL_killL b ds]
 | .ifc t x=>by simp only [AV.kill,AV.kill_kill b x]
 | .nptr z b' o=>by
  by_cases e:Nat.beq b' b=true
  ·simp only [AV.kill,e]
  ·simp only [Bool.not_eq_true] at e;simp only [AV.kill,e]
 | .sl b' o n=>by
  by_cases e:Nat.beq b' b=true
  ·simp only [AV.kill,e]
  ·simp only [Bool.not_eq_true] at e;simp only [AV.kill,e]
 | .mp b'=>by
  by_cases e:Nat.beq b' b=true
  ·simp only [AV.kill,e]
  ·simp only [Bool.not_eq_true] at e;simp only [AV.kill,e]
 | .it b'=>by
  by_cases e:Nat.beq b' b=true
  ·simp only [AV.kill,e]
  ·simp only [Bool.not_eq_true] at e;simp only [AV.kill,e]
 | .pl _=>rfl
 | .optr _ _=>rfl
 | .vs _ _=>rfl
 | .vm _ _=>rfl
 | .anyp=>rfl
 | .junk=>rfl
 | .gone=>rfl
theorem AV.killL_killL (b:Nat): ∀ l:List AV,AV.killL b (AV.killL b l)=AV.killL b l
 |[]=>rfl
 |x::r=>by simp only [AV.killL,AV.kill_kill b x,AV.killL_killL b r]
end
theorem killT_killT (b:Nat): ∀ T,killT b (killT b T)=killT b T
 |[]=>rfl
 |(i,x)::r=>by simp only [killT,AV.kill_kill,killT_killT b r]
theorem killH_killH (b:Nat): ∀ H,killH b (killH b H)=killH b H
 |[]=>rfl
 |(i,o)::r=>by
  simp only [killH]
  split
  ·exact killH_killH b r
  ·rename_i h
   simp only [killH,h,killH_killH b r]
   congr 2
   cases o<;>simp [AObj.kill,AV.killL_killL]
theorem SatB.burn {c:Ctx}{s:St}{β:Emb}{a:Act}{w w':World}(hs:SatB c s β a w){b:Nat}{p:Place}(hp:β b=some p)(hbut:But w w' (fun k=>p.nil=false∧k=p.blk)):Sat c ⟨killT b s.T,killH b s.H,b::s.M⟩ a w':=by
 have h1:=hs.replace (p':=⟨0,0,0,0,true⟩) hp (fun h=>by cases h) hbut (o:= .row 0 0 0 []) ⟨rfl,fun _=>rfl,fun h=>by cases h⟩
 have h2:=Sat.drop ⟨_,h1⟩ b
 have e:killH b ((b,.row 0 0 0 [])::killH b s.H)=killH b s.H:=by
  rw [killH]
  have:Nat.beq b b=true:=Nat.beq_refl b
  rw [this]
  exact killH_killH b s.H
 rw [killT_killT,e] at h2
 obtain ⟨β2,h2⟩:=h2;exact ⟨β2,h2.defers,h2.size,h2.heap,h2.slot,h2.keeps,fun i q hq hm=>h2.stay i q hq (by rw [mem_cons,Bool.or_eq_false_iff,decide_eq_false_iff_not] at hm;rw [mem_cons,mem_cons];simp [hm.1,hm.2])⟩
def AV.usd (b:Nat):Nat→AV
 |0=> .anyp
 |_+1=> .ptr b 0
section
variable {c:Ctx} {s:St} {d:Option Tmp} {ty:TypeId} {pos:String} {af:Array Edge} {g:Option (Nat×Bool)}
theorem e_usd {x:Operand}{b n k fz:Nat}{te e:TypeId}{cs:List AV}{ti:TI}{argTs:Array TypeId}(ht:tget c.U ty=some ti)(htd:ti.desc= .pointer e)
 (hx:opv s.T x=some (.sl b 0 n)) (hb:hget s.H b=some (.row te k fz cs)) (hd:dstOk c.N d=true):
 EOpB c ⟨d,.call {callee:= .builtin .unsafeSliceData,args:= #[x],argTypes:=argTs},ty,pos,af,g⟩ s ⟨putT s.T d (.usd b n),s.H,s.M⟩:=by
 intro a w β hs
 have hu:c.P.underlying ty=some (.pointer e):=(zx ht).trans (congrArg some htd)
 obtain ⟨p,hp,hcase⟩:=(hs.op hx).sl_inv2;obtain ⟨p',hp',hro⟩:=hs.heap.obj b _ hb
 rw [hp] at hp';cases hp'
 obtain ⟨_,_,hro⟩:=hro
 have hrun: ∀ (v:Value) (w1:World),(Builtin.unsafeSliceData_ argTs ty #[a.eval x]).run c.P w= .ok v w1→
  (execOp a.eval ⟨d,.call {callee:= .builtin .unsafeSliceData,args:= #[x],argTypes:=argTs},ty,pos,af,g⟩).run c.P w= .ok (.value v) w1:=by
  intro v w1 h
  simp [execOp,resolve,invoke,builtin,h]
 rcases hcase with ⟨hn,cap,hv,hcap,_⟩|⟨rfl,A,hv,hA⟩
 ·rw [Nat.add_zero] at hv
  by_cases hc0:cap=0
  ·have hn0:n=0:=by omega
   subst hn0 hc0
   obtain ⟨cv,fr,hcv,_⟩:=hro hn
   have hr:=Lib.run_unsafeSliceData_zero (P:=c.P) w argTs ty e hu ⟨p.blk,p.st,none⟩ 0 (te,cv.size) (shape_of hcv)
   refine ⟨_,β,Zv _ _,_,hrun _ _ (by rw [hv];exact hr),(hs.later ⟨Zv _ _,Nat.le_refl _⟩).put hd .anyp⟩
  ·refine ⟨w,β,RowKit.Below.refl _ _,_,hrun _ _ (by rw [hv];exact Lib.run_unsafeSliceData_row (P:=c.P) w argTs ty _ n cap hc0),hs.put hd ?_⟩
   cases n with
   |zero=>exact .anyp
   |succ m=>exact .ptr hp hn
 ·cases A with
  |none=>exact ⟨w,β,RowKit.Below.refl _ _,_,hrun _ _ (by rw [hv];exact Lib.run_unsafeSliceData_nil (P:=c.P) w argTs ty 0 0),hs.put hd .anyp⟩
  |some ad=>
   obtain ⟨hn,hblk⟩:=hA ad rfl;obtain ⟨cv,fr,hcv,_⟩:=hro hn
   have hr:=Lib.run_unsafeSliceData_zero (P:=c.P) w argTs ty e hu ad 0 (te,cv.size) (by rw [hblk];exact shape_of hcv)
   exact ⟨_,β,Zv _ _,_,hrun _ _ (by rw [hv];exact hr),(hs.later ⟨Zv _ _,Nat.le_refl _⟩).put hd .anyp⟩
end
section
variable {c:Ctx} {Q:Exit→Act→World→Prop} {T:List (Nat×AV)} {H:List (Nat×AObj)} {M:List Nat} {ops:Array Oper} {rest:List Oper} {d:Tmp} {ty:TypeId} {pos:String} {af:Array Edge}
theorem F_mapU (l:Str):F cU l=l.map U:=by
 induction l with
 |nil=>rfl
 |cons a v ih=>rw [List.map_cons,←ih];rfl
theorem e_ustr {x y:Operand}{b fz:Nat}{e pt it:TypeId}{l:Str}{ti ei:TI}(ht:tget c.U pt=some ti)(htd:ti.desc= .pointer e)(he:tget c.U e=some ei)(hek:ei.size=1)
 (hx:opv T x=some (.usd b l.length)) (hy:opv T y=some (.pl (.int .i64 l.length))) (hb:hget H b=some (.row e 1 fz (F cU l))) (hd:dstOk c.N (some d)=true) (h63:l.length≤9223372036854775807):
 EOp c ⟨some d,.call {callee:= .builtin .unsafeString,args:= #[x,y],argTypes:= #[pt,it]},ty,pos,af,none⟩ ⟨T,H,M⟩ ⟨putT (killT b T) (some d) (S l),killH b H,b::M⟩:=by
 intro a w β hs
 have hu:c.P.underlying pt=some (.pointer e):=(zx ht).trans (congrArg some htd)
 have hc1:c.P.cellsOf e=1:=by
  obtain ⟨i,hi,hi1,_⟩:=ty_info he
  simp [Program.cellsOf,hi,hi1,hek]
 obtain ⟨p,hp,hro⟩:=hs.heap.obj b _ hb;obtain ⟨hpk,hnil,hro⟩:=hro
 have hv2:a.eval y= .int .i64 (l.length:Int):=hs.pl hy
 have hrun: ∀ (v:Value) (w1:World),(Builtin.unsafeString_ #[pt,it] ty #[a.eval x,a.eval y]).run c.P w= .ok v w1→
  (execOp a.eval ⟨some d,.call {callee:= .builtin .unsafeString,args:= #[x,y],argTypes:= #[pt,it]},ty,pos,af,none⟩).run c.P w= .ok (.value v) w1:=by
  intro v w1 h
  simp [execOp,resolve,invoke,builtin,h]
 have hput: ∀ {w1:World},Sat c ⟨killT b T,killH b H,b::M⟩ a w1→ ∃ β',SatB c ⟨putT (killT b T) (some d) (S l),killH b H,b::M⟩ β' (a.put (some d) (.string ⟨l.toArray⟩)) w1:=fun ⟨β',h⟩=>⟨β',h.put hd (.c (.pl _))⟩
 cases l with
 |nil=>
  have hxv:=hs.op hx
  obtain ⟨q,hq⟩: ∃ q,a.eval x= .pointer q:=by
   generalize a.eval x=v at hxv
   have hxv:VRel c.F β w .anyp v:=hxv
   cases hxv with
   |c h=>cases h
   |anyp=>exact ⟨_,rfl⟩
  obtain ⟨β',hs'⟩:=hput (hs.burn (w':=w) hp ⟨rfl,⟨rfl,Nat.le_refl _⟩,rfl,Nat.le_refl _,fun _ _ _=>rfl⟩);exact ⟨w,β',.inl ⟨_,hrun _ _ (by rw [hq,hv2];exact Lib.run_unsafeString_none (P:=c.P) w pt it ty q),hs'⟩⟩
 |cons x0 l0=>
  obtain ⟨p',hp',hn,hv⟩:=VRel.ptr_inv (b:=b) (o:=0) (hs.op hx)
  rw [hp] at hp';cases hp'
  obtain ⟨cv,fr,hcv,hlim,hlen,hcell,_⟩:=hro hn
  have hFl:(F cU (x0::l0)).length=(x0::l0).length:=by rw [F_mapU,List.length_map]
  have hr:=run_ustr (P:=c.P) (w:=w) pt it ty e hu hc1 p.blk (p.st+0) cv.size (shape_of hcv) (x0::l0) (by simp) (by rw [Nat.add_zero,←hFl];exact hlen) h63 (fun j u hj=>by
   obtain ⟨v,hv,hr,_⟩:=hcell j (U u) (by rw [F_mapU,List.getElem?_map,hj];rfl)
   cases hr
   rw [show (⟨p.blk,p.st+0,none⟩:Addr).add j=⟨p.blk,p.st+j,none⟩ by
    unfold Addr.add
    by_cases h0:j=0
    ·subst h0;simp
    ·simp [h0]]
   rw [Zi hcv]
   exact hv)
  obtain ⟨β',hs'⟩:=hput (hs.burn (w':=w.freeze ⟨p.blk,p.st+0,none⟩ (x0::l0).length) hp (by
   have hb:=But.freeze w ⟨p.blk,p.st+0,none⟩ (x0::l0).length
   exact ⟨hb.os,hb.tape,hb.output,hb.size,fun k hk hne=>hb.block k hk fun h=>hne ⟨hn,h⟩⟩))
  exact ⟨_,β',.inl ⟨_,hrun _ _ (by rw [hv,hv2];exact hr),hs'⟩⟩
end
section
variable {c:Ctx} {Q:Exit→Act→World→Prop} {T:List (Nat×AV)} {H:List (Nat×AObj)} {M:List Nat} {ops:Array Oper} {rest:List Oper} {d:Tmp} {ty:TypeId} {pos:String} {af:Array Edge} {hot:List Nat} {lq:Plan} {i0:Nat}
theorem l_tounsafe {src dst u:TypeId}{x:Operand}{b o:Nat}{cs:List AV}{tb:TypeId}{ts td tu:TI}(hnext:RunL c ops Q rest ⟨(d,.ptr b o)::T,H,M⟩)(h1:tget c.U src=some ts:=by exact rfl)(hd1:ts.desc= .pointer u:=by exact rfl)(h2:tget c.U dst=some td:=by exact rfl)(hd2:td.desc= .unsafePointer:=by exact rfl)(h3:tget c.U u=some tu:=by exact rfl)(hsz:Nat.blt 0 tu.size=true:=by exact rfl)
 (hx:opv T x=some (.ptr b o):=by exact rfl) (hb:hget H b=some (.box tb cs):=by exact rfl) (ho:Nat.blt o cs.length=true:=by exact rfl) (hdo:dstOk c.N (some d)=true:=by exact rfl):RunL c ops Q (⟨some d,.convert src dst x,ty,pos,af,none⟩::rest) ⟨T,H,M⟩:=
 qi (s:=⟨T,H,M⟩) (q_tounsafe h1 hd1 h2 hd2 h3 hsz hx hb ho) rfl hdo hnext
theorem l_fromunsafe {P:Program}{n:Nat}{src dst u:TypeId}{x:Operand}{b o:Nat}{cs:List AV}{tb:TypeId}{ts td tu:TI}(hnext:RunL c ops Q rest ⟨(d,.ptr b o)::T,H,M⟩)(hP:c.P=P:=by exact rfl)(h1:tget c.U src=some ts:=by exact rfl)(hd1:ts.desc= .unsafePointer:=by exact rfl)(h2:tget c.U dst=some td:=by exact rfl)(hd2:td.desc= .pointer u:=by exact rfl)(h3:tget c.U u=some tu:=by exact rfl)
 (hx:opv T x=some (.ptr b o):=by exact rfl) (hb:hget H b=some (.box tb cs):=by exact rfl) (hn:cs.length=n:=by exact rfl) (hlies:liesAt P P.depth tb (n / P.cellsOf tb) o u 1=true:=by kernel_rfl) (hdo:dstOk c.N (some d)=true:=by exact rfl):RunL c ops Q (⟨some d,.convert src dst x,ty,pos,af,none⟩::rest) ⟨T,H,M⟩:=by
 subst hP hn
 exact qi (s:=⟨T,H,M⟩) (q_fromunsafe h1 hd1 h2 hd2 h3 hx hb hlies) rfl hdo hnext
theorem l_neqself {t t' u:TypeId}{x y:Operand}{b o:Nat}{ti tu:TI}(hnext:RunL c ops Q rest ⟨(d,B false)::T,H,M⟩)(ht:tget c.U t=some ti:=by exact rfl)(htd:ti.desc= .pointer u:=by exact rfl)(hu:tget c.U u=some tu:=by exact rfl)(hx:opv T x=some (.ptr b o):=by exact rfl)(hy:opv T y=some (.ptr b o):=by exact rfl)(hdo:dstOk c.N (some d)=true:=by exact rfl):RunL c ops Q (⟨some d,(.binOp .neq t x y t'),ty,pos,af,none⟩::rest) ⟨T,H,M⟩:=
 qi (s:=⟨T,H,M⟩) (q_neqself ht htd hu hx hy) rfl hdo hnext
theorem n_usd {x:Operand}{b n k fz:Nat}{te e:TypeId}{cs:List AV}{ti:TI}{argTs:Array TypeId}(hnext:RunM c ops hot Q lq ⟨(d,.usd b n)::T,H,M⟩)(ht:tget c.U ty=some ti:=by exact rfl)(htd:ti.desc= .pointer e:=by exact rfl)(hx:opv T x=some (.sl b 0 n):=by exact rfl)(hb:hget H b=some (.row te k fz cs):=by exact rfl)(hdo:dstOk c.N (some d)=true:=by exact rfl):
 RunN c ops hot Q i0 true ⟨some d,.call {callee:= .builtin .unsafeSliceData,args:= #[x],argTypes:=argTs},ty,pos,af,none⟩ lq ⟨T,H,M⟩:=RunN_eb (s:=⟨T,H,M⟩) (e_usd ht htd hx hb hdo) rfl hnext
theorem n_ustr {ρ:Type}{kk:Str→Option ρ}{r:ρ}{x y:Operand}{b fz:Nat}{e pt it:TypeId}{l:Str}{ti ei:TI}(h:(unsf l).bind kk=some r)(hn: ∀ v,unsf l=some v→kk v=some r→RunM c ops hot Q lq ⟨(d,S v)::killT b T,killH b H,b::M⟩)(hh:mem i0 hot=true:=by exact rfl)(ht:tget c.U pt=some ti:=by exact rfl)(htd:ti.desc= .pointer e:=by exact rfl)(he:tget c.U e=some ei:=by exact rfl)(hek:ei.size=1:=by exact rfl)
 (hx:opv T x=some (.usd b l.length):=by exact rfl) (hy:opv T y=some (.pl (.int .i64 l.length)):=by exact rfl) (hb:hget H b=some (.row e 1 fz (F cU l)):=by exact rfl) (hdo:dstOk c.N (some d)=true:=by exact rfl):RunN c ops hot Q i0 true ⟨some d,.call {callee:= .builtin .unsafeString,args:= #[x,y],argTypes:= #[pt,it]},ty,pos,af,none⟩ lq ⟨T,H,M⟩:=by
 obtain ⟨v,hv,h⟩:=bind_some h
 have h2:=hn v hv h
 obtain ⟨h63,rfl⟩:=unsf_some hv;exact RunN_e (s:=⟨T,H,M⟩) hh (e_ustr ht htd he hek hx hy hb hdo h63) rfl h2
theorem npcell_le {cs:List AV}{j b2 o:Nat}(hj:cs[j]? =some (.pl (.pointer none)))(i:Nat)(x y:AV)(hx:cs[i]? =some x)(hy:(cs.set j (.nptr true b2 o))[i]? =some y):AV.Le x y:=by
 rw [List.getElem?_set] at hy
 split at hy
 ·rename_i e;subst e
  split at hy
  ·cases hy
   rw [hj] at hx;cases hx
   intro F β w v h
   rw [h.pl_eq]
   exact .pnil
  ·cases hy
 ·rw [hx] at hy;cases hy
  exact fun _ _ _ _ h=>h
theorem k_npcell {code:Code}{tb:TypeId}{b j:Nat}{cs:List AV}(b2 o:Nat)(h:Run c Q code ⟨T,hset H b (.box tb (cs.set j (.nptr true b2 o))),M⟩)(hb:hget H b=some (.box tb cs):=by exact rfl)(hj:cs[j]? =some (.pl (.pointer none)):=by exact rfl):Run c Q code ⟨T,H,M⟩:=fun a w hs=>h a w (hs.weakbox hb (by simp) (npcell_le hj))
theorem l_npcell  {tb:TypeId}{b j:Nat}{cs:List AV}(b2 o:Nat)(h:RunL c ops Q rest ⟨T,hset H b (.box tb (cs.set j (.nptr true b2 o))),M⟩)(hb:hget H b=some (.box tb cs):=by exact rfl)(hj:cs[j]? =some (.pl (.pointer none)):=by exact rfl):RunL c ops Q rest ⟨T,H,M⟩:=fun a w hs=>h a w (hs.weakbox hb (by simp) (npcell_le hj))
theorem f_npcell {x:Exit}{tb:TypeId}{b j:Nat}{cs:List AV}(b2 o:Nat)(h:Fin c Q x ⟨T,hset H b (.box tb (cs.set j (.nptr true b2 o))),M⟩)(hb:hget H b=some (.box tb cs):=by exact rfl)(hj:cs[j]? =some (.pl (.pointer none)):=by exact rfl):Fin c Q x ⟨T,H,M⟩:=fun a w hs=>h a w (hs.weakbox hb (by simp) (npcell_le hj))
theorem bif_t {α:Type}{a b:Option α}{r:α}(h:(bif true then a else b)=some r):a=some r:=h
theorem bif_f {α:Type}{a b:Option α}{r:α}(h:(bif false then a else b)=some r):b=some r:=h
end
end Go.Abs
namespace Go.Abs
open Go Go.RowKit Go.Proofs W
variable [GTab]
section
variable {c:Ctx} {s:St} {d:Option Tmp} {ty:TypeId} {pos:String} {af:Array Edge} {g:Option (Nat×Bool)}
theorem e_mnz {k:FuncId}{fn:Func}{ps:Array TypeId}{cl:Call}{n:Int}{t e:TypeId}{ti ei:TI}(hf:c.P.funcs[k]? =some fn)(hname:(fn.name== "runtime.NumGoroutine")=false)(hb:fn.body.isNone=true)(hn:Extern.findNext fn=none)
 (hE:Extern.find fn=some (Extern.BytealgMakeNoZero.makeNoZero ps #[t])) (ht:tget c.U t=some ti) (htd:ti.desc= .slice e) (he:tget c.U e=some ei) (hk1:ei.size=1) (h0:0≤n) (h48:n≤281474976710656)
 (hk:calleeOf s.T cl.callee=some (k,[],[])) (ha:opvL s.T cl.args.toList=some [.pl (.int .i64 n)]) (hbo:hget s.H (nm d)=none) (hd:dstOk c.N d=true):
 EOpB c ⟨d,.call cl,ty,pos,af,g⟩ s ⟨putT s.T d (.sl (nm d) 0 n.toNat),(nm d,.row e 1 0 [])::s.H,s.M⟩:=by
 intro a w β hs
 have hu:c.P.underlying t=some (.slice e):=(zx ht).trans (congrArg some htd)
 obtain ⟨vs,hA,hrun⟩:=run_call_any (o:=⟨d,.call cl,ty,pos,af,g⟩) hs hk ha rfl;obtain ⟨hl,h⟩:=hA
 match vs,hl,h with
 |[v],_,h=>
  obtain rfl:=(h 0 _ _ rfl rfl).pl_eq;obtain ⟨cs,hr,hn1,_⟩:=Lib.run_makeNoZero (P:=c.P) w ps t e hu n.toNat (by omega)
  rw [show ((n.toNat:Nat):Int)=n by omega] at hr
  have hbd:BelowD w w.drew.drew:=⟨⟨rfl,rfl,rfl,Nat.le_refl _,fun _ _=>rfl⟩,by show w.drawn≤w.drawn+1+1;omega⟩
  obtain ⟨β',hs',hv⟩:=hs.newrow2 hbd hbo cs e (k:=1) (n:=n.toNat) (cap:=cs.size) (cs:=[]) (Nat.zero_le _) hn1 (by omega) (fun j y hy=>by simp at hy);refine ⟨_,β',?_,_,hrun w _ _ ?_,hs'.put hd hv⟩
  ·have hb1:RowKit.Below w.heap.size w.drew.drew (w.drew.drew.alloc (.cells cs e)):=Zv w.drew.drew _
   exact hbd.1.trans hb1
  ·rw [run_callFunc_extern hf hname hb hn hE]
   have:(Extern.BytealgMakeNoZero.makeNoZero ps #[t] #[.int .i64 n]).run c.P w=_:=hr
   simp [this,Result.andThen]
theorem q_copy0 {t t2 e:TypeId}{x y:Operand}{b o:Nat}{ti ei:TI}(ht:tget c.U t=some ti)(htd:ti.desc= .slice e)(he:tget c.U e=some ei)(hx:opv s.T x=some (.sl b o 0))(hy:opv s.T y=some (.pl (.slice none 0 0))):
 QOp c ⟨d,.call {callee:= .builtin .copy,args:= #[x,y],argTypes:= #[t,t2]},ty,pos,af,g⟩ s (.pl (.int .i64 0)):=by
 intro a w β hs
 have hu:c.P.underlying t=some (.slice e):=(zx ht).trans (congrArg some htd)
 obtain ⟨i,hi,hi1,_⟩:=ty_info he;obtain ⟨p,hp,hcase⟩:=(hs.op hx).sl_inv2
 have hv2:a.eval y= .slice none 0 0:=hs.pl hy
 have hx2: ∃ A cp,a.eval x= .slice A 0 cp:=by
  rcases hcase with ⟨_,cap,hv,_⟩|⟨_,A,hv,_⟩
  ·exact ⟨_,_,hv⟩
  ·exact ⟨_,_,hv⟩
 obtain ⟨A,cp,hv⟩:=hx2;refine ⟨_,.c (.pl _),fun w' _=> ?_⟩
 cases A with
 |none=>
  simp [execOp,resolve,invoke,builtin,hv,hv2,Builtin.copy_,run_underlying hu,Builtin.lenOf,Builtin.firstCells,sizeOf,typeInfo,hi]
  rfl
 |some ad=>
  simp [execOp,resolve,invoke,builtin,hv,hv2,Builtin.copy_,run_underlying hu,Builtin.lenOf,Builtin.firstCells,sizeOf,typeInfo,hi,storeCells]
  rfl
end
section
variable {c:Ctx} {Q:Exit→Act→World→Prop} {T:List (Nat×AV)} {H:List (Nat×AObj)} {M:List Nat} {ops:Array Oper} {rest:List Oper} {d:Tmp} {ty:TypeId} {pos:String} {af:Array Edge} {hot:List Nat} {lq:Plan} {i0:Nat}
theorem n_mnz {P:Program}{ρ:Type}{kk:Nat→Option ρ}{r:ρ}{k:FuncId}{fn:Func}{ps:Array TypeId}{cl:Call}{n:Int}{t e:TypeId}{ti ei:TI}(hf:P.funcs[k]? =some fn)(h:(mnz n).bind kk=some r)(hnx: ∀ v,mnz n=some v→kk v=some r→RunM c ops hot Q lq ⟨(d,.sl (nm (some d)) 0 v)::T,(nm (some d),.row e 1 0 [])::H,M⟩)
 (hP:c.P=P:=by exact rfl) (hname:(fn.name== "runtime.NumGoroutine")=false:=by kernel_rfl) (hb:fn.body.isNone=true:=by kernel_rfl) (hn:Extern.findNext fn=none:=by kernel_rfl) (hE:Extern.find fn=some (Extern.BytealgMakeNoZero.makeNoZero ps #[t]):=by exact rfl)
 (ht:tget c.U t=some ti:=by exact rfl) (htd:ti.desc= .slice e:=by exact rfl) (he:tget c.U e=some ei:=by exact rfl) (hk1:ei.size=1:=by exact rfl) (hk:calleeOf T cl.callee=some (k,[],[]):=by exact rfl) (ha:opvL T cl.args.toList=some [.pl (.int .i64 n)]:=by exact rfl) (hbo:hget H (nm (some d))=none:=by exact rfl) (hdo:dstOk c.N (some d)=true:=by exact rfl):
 RunN c ops hot Q i0 true ⟨some d,.call cl,ty,pos,af,none⟩ lq ⟨T,H,M⟩:=by
 subst hP
 obtain ⟨v,hv,h⟩:=bind_some h
 have h2:=hnx v hv h
 obtain ⟨hne,rfl⟩:=mnz_some hv;exact RunN_eb (s:=⟨T,H,M⟩) (e_mnz hf hname hb hn hE ht htd he hk1 hne.1 hne.2 hk ha hbo hdo) rfl h2
theorem l_copy0 {t t2 e:TypeId}{x y:Operand}{b o:Nat}{ti ei:TI}(hnext:RunL c ops Q rest ⟨(d,I 0)::T,H,M⟩)(ht:tget c.U t=some ti:=by exact rfl)(htd:ti.desc= .slice e:=by exact rfl)(he:tget c.U e=some ei:=by exact rfl)(hx:opv T x=some (.sl b o 0):=by exact rfl)(hy:opv T y=some (.pl (.slice none 0 0)):=by exact rfl)(hdo:dstOk c.N (some d)=true:=by exact rfl):
 RunL c ops Q (⟨some d,.call {callee:= .builtin .copy,args:= #[x,y],argTypes:= #[t,t2]},ty,pos,af,none⟩::rest) ⟨T,H,M⟩:=qi (s:=⟨T,H,M⟩) (q_copy0 ht htd he hx hy) rfl hdo hnext
end
end Go.Abs
namespace Go.Abs
open Go Go.RowKit Go.Proofs W
variable [GTab]
def DSpec (P:Program)(k:FuncId)(args:List AV)(H:List (Nat×AObj))(r:AV)(H':List (Nat×AObj))(mv:List Nat):Prop:=
 (∀ (es:Array Value) (w:World),(callFunc k es).run P w= .ok (.enter k es) w)∧
 ∀ (F:Nat→Prop) (β:Emb) (w:World) (vs:List Value),HRel F β H w→Args F β w args vs→
  CallsD P k vs.toArray .returning w fun e u' w'=>u'= .returning∧Rpost (fun r' H'' M=>r'=r∧H''=H'∧M=mv) F β w e w'
theorem SatB.enter {P:Program}{U:List (Nat×TI)}{hU:TabOk P U}{F:Nat→Prop}{β:Emb}{w:World}{N:Nat}{args:List AV}{H:List (Nat×AObj)}{vs:List Value}(hH:HRel F β H w)(hA:Args F β w args vs)(hn:Nat.ble args.length N=true):
 SatB ⟨P,U,hU,F,β,w,N,[]⟩ ⟨enumT 0 args,H,[]⟩ β {tmps:=vs.toArray++Array.replicate (N-vs.toArray.size) undef,defers:=[]} w:=by
 obtain ⟨hl,ha⟩:=hA;refine ⟨rfl,?_,hH,fun i x hx=> ?_,Keeps.refl _ _,fun b p hp _=>hp⟩
 ·have h1:=Nat.le_of_ble_eq_true hn
  show (vs.toArray++Array.replicate (N-vs.toArray.size) undef).size=N
  rw [Array.size_append,Array.size_replicate,List.size_toArray]
  omega
 ·rw [get_enumT] at hx
  simp only [Nat.zero_le,if_true,Nat.sub_zero] at hx
  have hi:i<args.length:=(List.getElem?_eq_some_iff.1 hx).1
  have hv:vs[i]? =some (vs[i]'(by omega)):=by simp
  refine ⟨vs[i]'(by omega),?_,ha i x _ hx hv⟩
  rw [Array.getElem?_append_left (by simp;omega)]
  simp
theorem D_of_run {P:Program}{U:List (Nat×TI)}(hU:TabOk P U){k:FuncId}{fn:Func}{code:Code}{args:List AV}{H H':List (Nat×AObj)}{r:AV}{mv:List Nat}(hf:P.funcs[k]? =some fn)
 (h: ∀ F β w,(∀ b p,β b=some p→mem b (hnames H)=true)→Run ⟨P,U,hU,F,β,w,fn.ntmps,[]⟩ (bodyPost P fn (Rpost (fun r' H'' M=>r'=r∧H''=H'∧M=mv) F β w)) code ⟨enumT 0 args,H,[]⟩)
 (hb:fn.body=some code:=by exact rfl) (hname:(fn.name== "runtime.NumGoroutine")=false:=by kernel_rfl) (hn:Nat.ble args.length fn.ntmps=true:=by exact rfl):DSpec P k args H r H' mv:=
 ⟨Proofs.enters_of hf hname hb,fun F β w vs hH hA=>callsD_of_wp hf hb (h F β w (fun b p hp=>let ⟨o,ho⟩:=hH.dom b p hp;hnames_mem ho) _ w ⟨β,SatB.enter hH hA hn⟩)⟩
theorem X_of_runD {P:Program}{U:List (Nat×TI)}(hU:TabOk P U){k:FuncId}{fn:Func}{code:Code}{args:List AV}{H:List (Nat×AObj)}{Q:Post}(hf:P.funcs[k]? =some fn)
 (h: ∀ F β w,(∀ b p,β b=some p→mem b (hnames H)=true)→(∀ b o,hget H b=some o→ ∃ p,β b=some p)→Run ⟨P,U,hU,F,β,w,fn.ntmps,[]⟩ (bodyPostD P fn (Rpost Q F β w)) code ⟨enumT 0 args,H,[]⟩)
 (hb:fn.body=some code:=by exact rfl) (hname:(fn.name== "runtime.NumGoroutine")=false:=by kernel_rfl) (hn:Nat.ble args.length fn.ntmps=true:=by exact rfl):ASpec P k args H Q:=
 ⟨Proofs.enters_of hf hname hb,fun F β w vs hH hA=>calls_of_wp_defers hf hb (h F β w (fun b p hp=>let ⟨o,ho⟩:=hH.dom b p hp;hnames_mem ho) (fun b o ho=>let ⟨p,hp,_⟩:=hH.obj b o ho;⟨p,hp⟩) _ w ⟨β,SatB.enter hH hA hn⟩)⟩
def defVal (p:Place)(off:Nat)(ks:List Value):Array Value:=(.pointer (some ⟨p.blk,p.st+off,none⟩)::ks).toArray
section
variable {c:Ctx} {Q:Exit→Act→World→Prop} {T:List (Nat×AV)} {H H1 H2 H':List (Nat×AObj)} {M mv:List Nat} {ops:Array Oper} {rest:List Oper} {ty:TypeId} {pos:String} {af:Array Edge}
theorem l_defer {k:FuncId}{x:Operand}{ys:List Operand}{ks:List Value}{b off:Nat}{ob:AObj}{argTs:Array TypeId}(hA: ∀ b o,hget H1 b=some o→ ∃ p,c.β0 b=some p)(hx:opv T x=some (.ptr b off))(hb:hget H1 b=some ob)(hM:mem b M=false)(hys:ys.map (fun y=>match y with| .const v=>v|_=>undef)=ks)(hyc:ys.all (fun y=>match y with| .const _=>true|_=>false)=true)
 (h: ∀ p,c.β0 b=some p→p.nil=false→RunL {c with D:=⟨.fn (.func k) #[],defVal p off ks⟩::c.D} ops Q rest ⟨T,H,M⟩):
 RunL c ops Q (⟨none,.defer {callee:= .value (.func k),args:=(x::ys).toArray,argTypes:=argTs},ty,pos,af,none⟩::rest) ⟨T,H,M⟩:=by
 rintro a w ⟨β,hs⟩
 obtain ⟨p,hp⟩:=hA b ob hb
 have hpb:=hs.stay b p hp hM
 obtain ⟨p',hp',hn,hv⟩:=(hs.op hx).ptr_inv
 rw [hpb] at hp';cases hp'
 have hev: ∀ l:List Operand,l.all (fun y=>match y with| .const _=>true|_=>false)=true→l.map a.eval=l.map (fun y=>match y with| .const v=>v|_=>undef):=by
  intro l
  induction l with
  |nil=>intro _;rfl
  |cons y r ih=>
   intro hl
   simp only [List.all_cons,Bool.and_eq_true] at hl
   rw [List.map_cons,List.map_cons,ih hl.2]
   cases y with
   |const v=>rfl
   |_=>exact absurd hl.1 (by simp)
 refine wpList_plain rfl fun K hK=> ?_;unfold Oper.wp
 have hrun:(execOp a.eval ⟨none,.defer {callee:= .value (.func k),args:=(x::ys).toArray,argTypes:=argTs},ty,pos,af,none⟩).run c.P w= .ok (.defer ⟨.fn (.func k) #[],defVal p off ks⟩) w:=by
  have he:(x::ys).toArray.map a.eval=defVal p off ks:=by
   unfold defVal
   rw [List.map_toArray,List.map_cons,hv,hev ys hyc,hys]
  simp [execOp,resolve,he,Act.eval,Deferred.ofValue]
 rw [hrun,Oper.upon_defer]
 refine hK _ _ (h p hp hn _ _ ⟨β,?_⟩);exact ⟨by show _::a.defers=_::c.D;rw [hs.defers],hs.size,hs.heap,hs.slot,hs.keeps,hs.stay⟩
end
section
variable {c:Ctx} {fn:Func} {T:List (Nat×AV)} {H H1 H2 H':List (Nat×AObj)} {M mv:List Nat} {k:FuncId} {r:AV}
theorem xcallsD (ns:List Nat){args:List AV}(hspec:DSpec c.P k args H1 r H' mv){β:Emb}{a:Act}{w:World}(hs:SatB c ⟨T,H,M⟩ β a w){vs:List Value}(hA:Args c.F β w args vs)
 (hH1:hpick ns H=H1) (hok:honly ns H1=true) (hon:AV.onlyL ns args=true) (hH2:hrest ns H=H2) (hap:hapart H' H2=true):
 CallsD c.P k vs.toArray .returning w (fun e u' w'=>u'= .returning∧ ∃ v,e= .returned v∧Sat c ⟨kiT mv T,H'++kiH mv H2,mv++M⟩ a w'):=by
 subst hH1 hH2
 have hH:HRel (Fout c.F ns β) (cut ns β) (hpick ns H) w:=hs.heap.cut hok
 have hA':Args (Fout c.F ns β) (cut ns β) w args vs:=⟨hA.1,fun i x v hx hv=>
  (hA.2 i x v hx hv).only (Nat.le_refl _) (fun k hk=> .inl (off_cut.1 hk)) (fun _ _ _=>rfl) (fun b p hm hp=>qV.2 ⟨hm,hp⟩) (AV.onlyL_get hon hx)⟩
 refine (hspec.2 (Fout c.F ns β) (cut ns β) w vs hH hA').mono ?_
 rintro e u' w' ⟨hu,r',v,H'',M',β',rfl,⟨rfl,rfl,rfl⟩,hH',hv,hkp,hst⟩
 obtain ⟨hs',hup⟩:=SatB_calledX hs hH' hkp hst hap;exact ⟨hu,v,rfl,⟨_,hs'⟩⟩
def LeavesD (c:Ctx)(fn:Func)(R:Ending→World→Prop)(ds:List Deferred)(s:St):Prop:= ∀ a w,Sat c s a w→Leaves c.P fn a.tmps R ds .returning w
theorem leavesD_cons (ns:List Nat){R:Ending→World→Prop}{ds D0:List Deferred}{p:Place}{b off:Nat}{ks:List Value}(hp:c.β0 b=some p)(hn:p.nil=false)(hspec:DSpec c.P k (.ptr b off::ks.map .pl) H1 r H' mv)
 (h:LeavesD c fn R ds ⟨kiT mv T,H'++kiH mv H2,mv++M⟩) (hD:D0=⟨.fn (.func k) #[],defVal p off ks⟩::ds:=by exact rfl) (hM:mem b M=false:=by exact rfl)
 (hH1:hpick ns H=H1:=by exact rfl) (hok:honly ns H1=true:=by exact rfl) (hon:AV.onlyL ns (.ptr b off::ks.map .pl)=true:=by exact rfl) (hH2:hrest ns H=H2:=by exact rfl) (hap:hapart H' H2=true:=by exact rfl):LeavesD c fn R D0 ⟨T,H,M⟩:=by
 subst hD
 rintro a w ⟨β,hs⟩
 have hpb:=hs.stay b p hp hM
 have hA:Args c.F β w (.ptr b off::ks.map .pl) (.pointer (some ⟨p.blk,p.st+off,none⟩)::ks):=by
  refine ⟨by simp,fun i x v hx hv=> ?_⟩
  cases i with
  |zero=>
   simp only [List.getElem?_cons_zero,Option.some.injEq] at hx hv
   subst hx hv
   exact .ptr hpb hn
  |succ i=>
   simp only [List.getElem?_cons_succ,List.getElem?_map] at hx hv
   rw [hv] at hx
   cases hx
   exact .c (.pl _)
 have hi:(invoke (.fn (.func k) #[]) (defVal p off ks)).run c.P w= .ok (.enter k (defVal p off ks)) w:=by
  simp [invoke,hspec.1]
 refine leaves_cons (by intro h;cases h) hi ((xcallsD ns hspec hs hA hH1 hok hon hH2 hap).mono ?_)
 rintro e u' w' ⟨rfl,v,rfl,hs'⟩
 exact h a w' hs'
theorem leavesD_nil {P:Program}{U:List (Nat×TI)}{hU:TabOk P U}{F:Nat→Prop}{β:Emb}{w0:World}{N:Nat}{D:List Deferred}{Nm:List Nat}{r r':AV}(σ:List (Nat×Nat))
 (hN: ∀ b p,β b=some p→mem b Nm=true) (hres:resAV U T H fn.results.toList=some r':=by exact rfl) (hr:r'.mapN (reL σ)=r:=by exact rfl) (hσ:okS σ=true:=by exact rfl) (hH:pickS σ σ H=some H':=by exact rfl) (hM:okM σ M mv Nm=true:=by exact rfl):
 LeavesD ⟨P,U,hU,F,β,w0,N,D⟩ fn (Rpost (fun x H'' M'=>x=r∧H''=H'∧M'=mv) F β w0) [] ⟨T,H,M⟩:=by
 rintro a w ⟨β',hs⟩
 obtain ⟨u,hu,hv⟩:=run_results hs hres
 have hO: ∀ k,off F (reB σ β') k→off F β' k∨w.heap.size≤k:=fun k hk=> .inl (hk.imp id reB_own)
 refine ⟨u,hu,r,u,H',mv,reB σ β',rfl,⟨rfl,rfl,rfl⟩,hs.heap.re hσ hH,?_,?_,fun b p hp hm=> ?_⟩
 ·rw [←hr];exact VRel.mapN (Nat.le_refl _) hO (fun _ _ _=>rfl) (reL_rel hσ) hv
 ·exact ⟨hs.keeps.os,hs.keeps.tape,hs.keeps.output,hs.keeps.size,hs.keeps.block,fun k hk=>hs.keeps.grows k (reB_own hk)⟩
 ·obtain ⟨h1,h2⟩:=okM_get hM (hN b p hp) hm;exact Qq.2 ⟨b,lk_rk hσ h1,hs.stay b p hp h2⟩
theorem fin_D {R:Ending→World→Prop}{s:St}(h:LeavesD c fn R c.D s):Fin c (bodyPostD c.P fn R) .normal s:=by
 intro a w hs
 obtain ⟨β,hb⟩:=hs
 show Leaves c.P fn a.tmps R a.defers .returning w
 rw [hb.defers]
 exact h a w ⟨β,hb⟩
end
end Go.Abs
namespace Go.Abs
open Go Go.RowKit Go.Proofs W
variable [GTab]
section
variable {c:Ctx} {T:List (Nat×AV)} {H:List (Nat×AObj)} {M:List Nat} {d:Option Tmp} {ty:TypeId} {pos:String} {af:Array Edge} {g:Option (Nat×Bool)}
theorem e_cellop {cl:Call}{k:FuncId}{tb:TypeId}{b o:Nat}{cs:List AV}{ks:List Value}{old new r:Value}(hk:calleeOf T cl.callee=some (k,[],[]))(ha:opvL T cl.args.toList=some (.ptr b o::ks.map .pl))(hb:hget H b=some (.box tb cs))(hc:cs[o]? =some (.pl old))(h1:new.oneCell'=true)
 (hrun: ∀ (ad:Addr) (w:World),w.cell? ad=some old→w.frozen? ad=false→(w.shape? ad.block).isSome=true→(callFunc k (.pointer (some ad)::ks).toArray).run c.P w= .ok (.value r) (w.setCell ad new)) (hd:dstOk c.N d=true):
 EOp c ⟨d,.call cl,ty,pos,af,g⟩ ⟨T,H,M⟩ ⟨putT T d (.pl r),hset H b (.box tb (cs.set o (.pl new))),M⟩:=by
 intro a w β hs
 obtain ⟨vs,hA,hrun'⟩:=run_call_any (o:=⟨d,.call cl,ty,pos,af,g⟩) hs hk ha rfl
 simp only [List.nil_append,List.append_nil] at hA
 obtain ⟨hl,hval⟩:=hA
 cases vs with
 |nil=>simp at hl
 |cons v0 vr=>
  obtain ⟨p,hp,hn,rfl⟩:=VRel.ptr_inv (hval 0 _ _ rfl rfl)
  have hvr:vr=ks:=by
   apply List.ext_getElem?
   intro i
   by_cases hi:i<ks.length
   ·have h2:=hval (i+1) (.pl ks[i]) (vr[i]'(by simp at hl;omega)) (by simp [hi]) (by simp)
    have:=h2.pl_eq
    rw [List.getElem?_eq_getElem hi,List.getElem?_eq_getElem (by simp at hl;omega),this]
   ·rw [List.getElem?_eq_none (by simp at hl;omega),List.getElem?_eq_none (by omega)]
  subst hvr
  obtain ⟨p',hp',hr⟩:=hs.heap.obj b _ hb
  rw [hp] at hp';cases hp'
  obtain ⟨_,cv,fr,hcv,⟨h5,h5'⟩,h6,h7⟩:=hr;obtain ⟨u,hu,hru,_⟩:=h6 o _ hc;obtain rfl:=hru.pl_eq
  have hlt:p.st+o<cv.size:=(Array.getElem?_eq_some_iff.1 hu).1
  have hcell:w.cell? ⟨p.blk,p.st+o,none⟩=some u:=by rw [Zi hcv];exact hu
  have hfz:w.frozen? ⟨p.blk,p.st+o,none⟩=false:=by
   have ht:=hcv.1
   obtain ⟨lo,hi⟩:=fr
   simp only [World.frozen?,ht,Bool.and_eq_false_iff,decide_eq_false_iff_not]
   by_cases q:lo≤p.st+o
   ·exact .inr (h7 _ hlt q)
   ·exact .inl q
  have hsh:(w.shape? p.blk).isSome=true:=by rw [shape_of hcv];rfl
  have hsc:w.setCell ⟨p.blk,p.st+o,none⟩ new=w.setCells p.blk (p.st+o) [new]:=by simp [World.setCells]
  have hR:=hrun' w _ _ (hrun _ _ hcell hfz hsh)
  rw [hsc] at hR
  have hbut:=But.setCells p.blk [new] (p.st+o) w
  have hw: ∀ k,k<w.heap.size→ ¬ off c.F β k→(w.setCells p.blk (p.st+o) [new]).heap[k]? =w.heap[k]? :=fun k hk hno=>hbut.block k hk (fun e=>hno (.inr ⟨b,p,hp,hn,e.symm⟩))
  refine ⟨_,β,.inl ⟨r,hR,(hs.setobj hp hn hbut (o:= .box tb (cs.set o (.pl new))) ⟨hn,_,fr,zaa _ _ hcv,⟨h5,by rw [qS,List.length_set];exact h5'⟩,fun i z hz=> ?_,fun o' ho'=>h7 o' (by rw [qS] at ho';exact ho')⟩).put hd (.c (.pl _))⟩⟩
  rw [wr_get _ _ _ _ (by simp only [List.length_cons,List.length_nil];omega)]
  simp only [List.length_cons,List.length_nil]
  rw [List.getElem?_set] at hz
  by_cases hi:o=i
  ·subst hi
   rw [if_pos rfl] at hz
   split at hz
   ·cases hz
    refine ⟨new,?_,.c (.pl _),h1⟩
    rw [if_pos (by omega)];simp
   ·cases hz
  ·rw [if_neg hi] at hz
   obtain ⟨u',hu',hr',h1u⟩:=h6 i z hz;exact ⟨u',by rw [if_neg (by omega)];exact hu',hr'.mono (fun _ _ h=>h) hbut.size (fun _ h=> .inl h) hw,h1u⟩
end
theorem spot_none {w:World}{ad:Addr}{v:Value}(h:w.cell? ad=some v):ad.spot=none:=by
 cases hsp:ad.spot with
 |none=>rfl
 |some q=>
  simp [World.cell?,hsp] at h
  split at h<;>cases h
theorem setCell_same {w:World}{ad:Addr}{v:Value}(hs:ad.spot=none)(h:w.cell? ad=some v):w.setCell ad v=w:=by
 obtain ⟨blk,o,sp⟩:=ad
 simp only at hs
 subst hs
 unfold World.cell? at h;unfold World.setCell
 have:w.heap.modify blk (fun
  | .cells c elem frozen=> .cells (if (none:Option Nat).isSome then c else c.setIfInBounds o v) elem frozen
  |o=>o)=w.heap:=by
  apply Array.ext_getElem?
  intro i
  rw [Array.getElem?_modify]
  split
  ·rename_i hi
   subst hi
   cases hb:w.heap[blk]? with
   |none=>rfl
   |some ob=>
    cases ob with
    |cells c e f=>
     simp only [hb] at h
     simp only [Option.map_some,Option.some.injEq,Obj.cells.injEq,and_true]
     simp at h ⊢
     obtain ⟨hlt,hg⟩:=Array.getElem?_eq_some_iff.1 h;apply Array.ext_getElem?
     intro j
     rw [Array.getElem?_setIfInBounds]
     split
     ·rename_i hj;subst hj;exact h.symm
     ·rfl
    |_=>rfl
  ·rfl
 exact congrArg (fun h=>{w with heap:=h}) this
section
variable {P:Program} {k:FuncId} {fn:Func}
theorem at_load (hf:P.funcs[k]? =some fn)(hname:(fn.name== "runtime.NumGoroutine")=false)(hb:fn.body.isNone=true)(hn:Extern.findNext fn=none){ik:IntKind}(hE:Extern.find fn=some (Extern.Atomic.loadT (.int ik)))(x:Int)(ad:Addr)(w:World)(hc:w.cell? ad=some (.int ik x)):
 (callFunc k #[.pointer (some ad)]).run P w= .ok (.value (.int ik x)) w:=by
 rw [run_callFunc_extern hf hname hb hn hE,show Extern.Atomic.loadT (.int ik) #[.pointer (some ad)]=(do Extern.Atomic.read (.int ik) (←asAddr (.pointer (some ad)))) from rfl]
 simp [Extern.Atomic.read,asAddr,hc,Result.andThen]
theorem at_store (hf:P.funcs[k]? =some fn)(hname:(fn.name== "runtime.NumGoroutine")=false)(hb:fn.body.isNone=true)(hn:Extern.findNext fn=none)(hE:Extern.find fn=some Extern.Atomic.storeT)(v u:Value)(hv:v.oneCell'=true)(ad:Addr)(w:World)(hc:w.cell? ad=some u)(hz:w.frozen? ad=false):
 (callFunc k #[.pointer (some ad),v]).run P w= .ok (.value (.tuple #[])) (w.setCell ad v):=by
 rw [run_callFunc_extern hf hname hb hn hE,show Extern.Atomic.storeT #[.pointer (some ad),v]=(do store (←asAddr (.pointer (some ad))) v .atomic;pure Extern.Atomic.none_) from rfl]
 simp [Extern.Atomic.none_,asAddr,run_store P w ad v .atomic hv,hc,hz,Result.andThen]
theorem at_cas (hf:P.funcs[k]? =some fn)(hname:(fn.name== "runtime.NumGoroutine")=false)(hb:fn.body.isNone=true)(hn:Extern.findNext fn=none){ik:IntKind}(hE:Extern.find fn=some (Extern.Atomic.casT (.int ik)))(x y:Int)(ad:Addr)(w:World)(hc:w.cell? ad=some (.int ik x))(hz:w.frozen? ad=false)(hs:(w.shape? ad.block).isSome=true):
 (callFunc k #[.pointer (some ad),.int ik x,.int ik y]).run P w= .ok (.value (.bool true)) (w.setCell ad (.int ik y)):=by
 obtain ⟨q,hq⟩:=Option.isSome_iff_exists.1 hs
 have hdef:Extern.Atomic.casT (.int ik) #[.pointer (some ad),.int ik x,.int ik y]=(do
  let a←asAddr (.pointer (some ad))
  if←Extern.Atomic.touchesFrozen a then unsupported (.unsafePointer "a write to bytes that a string shares")
  let eq←match Extern.Atomic.T.int ik,←Extern.Atomic.read (.int ik) a,Value.int ik x with
   |_,.int _ x,.int _ y=>pure (x==y)
   | .ptr,.pointer x,.pointer y=>samePointer x y
   | .int _,.pointer (some _),.int _ 0| .int _,.int _ 0,.pointer (some _)=>pure false
   | .int _,.pointer (some _),_| .int _,_,.pointer (some _)=>unsupported .addressObserved
   |_,_,_=>stuck "atomic.CompareAndSwap: old is no T"
  if eq then store a (.int ik y) .atomic
  pure (.bool eq)):=rfl
 rw [run_callFunc_extern hf hname hb hn hE,hdef]
 simp [Extern.Atomic.read,Extern.Atomic.touchesFrozen,viewAt,hq,asAddr,hc,hz,run_store P w ad (.int ik y) .atomic rfl,Result.andThen]
theorem at_add (hf:P.funcs[k]? =some fn)(hname:(fn.name== "runtime.NumGoroutine")=false)(hb:fn.body.isNone=true)(hn:Extern.findNext fn=none){ik:IntKind}(hE:Extern.find fn=some (Extern.Atomic.update (Op.intArith .add) ik true))(x y:Int)(ad:Addr)(w:World)(hc:w.cell? ad=some (.int ik x))(hz:w.frozen? ad=false):
 (callFunc k #[.pointer (some ad),.int ik y]).run P w= .ok (.value (.int ik (ik.wrap (x+y)))) (w.setCell ad (.int ik (ik.wrap (x+y)))):=by
 have hdef:Extern.Atomic.update (Op.intArith .add) ik true #[.pointer (some ad),.int ik y]=(do
  let a←asAddr (.pointer (some ad))
  let old←Extern.Atomic.read (.int ik) a
  let new←Op.intArith .add ik (←asInt old) (←asInt (.int ik y))
  store a new .atomic
  pure (if true then new else old)):=rfl
 rw [run_callFunc_extern hf hname hb hn hE,hdef]
 simp [Extern.Atomic.read,Op.intArith,asInt,asIntOf,asAddr,hc,hz,run_store P w ad (.int ik (ik.wrap (x+y))) .atomic rfl,Result.andThen]
theorem race0_spec (hf:P.funcs[k]? =some fn){m:Mark}(hname:(fn.name== "runtime.NumGoroutine")=false:=by kernel_rfl)(hb:fn.body.isNone=true:=by kernel_rfl)(hn:Extern.findNext fn=none:=by kernel_rfl)(hE:Extern.find fn=some (fun _=>do mark m;pure Extern.Race.none_):=by exact rfl):NSpec P k [] (.pl (.tuple #[])):=by
 intro F β w vs hA
 obtain ⟨hl,h⟩:=hA;obtain rfl:vs=[]:=List.eq_nil_of_length_eq_zero hl.symm;refine ⟨_,.c (.pl _),fun w'=> ?_⟩
 rw [run_callFunc_extern hf hname hb hn hE]
 simp [Extern.Race.none_,Result.andThen]
theorem race1_spec (hf:P.funcs[k]? =some fn)(b o:Nat){m:Addr→Mark}(hname:(fn.name== "runtime.NumGoroutine")=false:=by kernel_rfl)(hb:fn.body.isNone=true:=by kernel_rfl)(hn:Extern.findNext fn=none:=by kernel_rfl)(hE:Extern.find fn=some (Extern.Race.marked m):=by exact rfl):NSpec P k [.ptr b o] (.pl (.tuple #[])):=by
 intro F β w vs hA
 obtain ⟨hl,h⟩:=hA
 match vs,hl,h with
 |[v],_,h=>
  obtain ⟨p,hp,hn',rfl⟩:=VRel.ptr_inv (h 0 _ _ rfl rfl);refine ⟨_,.c (.pl _),fun w'=> ?_⟩
  rw [run_callFunc_extern hf hname hb hn hE]
  simp [Extern.Race.marked,Extern.Race.at_,Extern.Race.none_,Result.andThen]
end
section
variable {c:Ctx} {Q:Exit→Act→World→Prop} {T:List (Nat×AV)} {H:List (Nat×AObj)} {M:List Nat} {ops:Array Oper} {rest:List Oper} {d:Tmp} {ty:TypeId} {pos:String} {af:Array Edge} {hot:List Nat} {lq:Plan} {i0:Nat} {P:Program} {k:FuncId} {fn:Func} {tb:TypeId} {b o:Nat} {cs:List AV} {cl:Call} {ik:IntKind} {x y:Int}
theorem l_aload (hf:P.funcs[k]? =some fn)(hnext:RunL c ops Q rest ⟨(d,.pl (.int ik x))::T,hset H b (.box tb (cs.set o (.pl (.int ik x)))),M⟩)(hP:c.P=P:=by exact rfl)(hname:(fn.name== "runtime.NumGoroutine")=false:=by kernel_rfl)(hbd:fn.body.isNone=true:=by kernel_rfl)(hn:Extern.findNext fn=none:=by kernel_rfl)(hE:Extern.find fn=some (Extern.Atomic.loadT (.int ik)):=by exact rfl)
 (hk:calleeOf T cl.callee=some (k,[],[]):=by exact rfl) (ha:opvL T cl.args.toList=some [.ptr b o]:=by exact rfl) (hb:hget H b=some (.box tb cs):=by exact rfl) (hc:cs[o]? =some (.pl (.int ik x)):=by exact rfl) (hdo:dstOk c.N (some d)=true:=by exact rfl):RunL c ops Q (⟨some d,.call cl,ty,pos,af,none⟩::rest) ⟨T,H,M⟩:=by
 subst hP
 exact Jd (s:=⟨T,H,M⟩) (e_cellop (ks:=[]) (r:= .int ik x) hk ha hb hc rfl (fun ad w h1 h2 h3=>(at_load hf hname hbd hn hE x ad w h1).trans (congrArg (Result.ok (Next.value (.int ik x))) (setCell_same (spot_none h1) h1).symm)) hdo) rfl hnext
theorem l_acas (hf:P.funcs[k]? =some fn)(hnext:RunL c ops Q rest ⟨(d,B true)::T,hset H b (.box tb (cs.set o (.pl (.int ik y)))),M⟩)(hP:c.P=P:=by exact rfl)(hname:(fn.name== "runtime.NumGoroutine")=false:=by kernel_rfl)(hbd:fn.body.isNone=true:=by kernel_rfl)(hn:Extern.findNext fn=none:=by kernel_rfl)(hE:Extern.find fn=some (Extern.Atomic.casT (.int ik)):=by exact rfl)
 (hk:calleeOf T cl.callee=some (k,[],[]):=by exact rfl) (ha:opvL T cl.args.toList=some [.ptr b o,.pl (.int ik x),.pl (.int ik y)]:=by exact rfl) (hb:hget H b=some (.box tb cs):=by exact rfl) (hc:cs[o]? =some (.pl (.int ik x)):=by exact rfl) (hdo:dstOk c.N (some d)=true:=by exact rfl):RunL c ops Q (⟨some d,.call cl,ty,pos,af,none⟩::rest) ⟨T,H,M⟩:=by
 subst hP
 exact Jd (s:=⟨T,H,M⟩) (e_cellop (ks:=[.int ik x,.int ik y]) hk ha hb hc rfl (fun ad w h1 h2 h3=>at_cas hf hname hbd hn hE x y ad w h1 h2 h3) hdo) rfl hnext
theorem l_aadd (hf:P.funcs[k]? =some fn)(hnext:RunL c ops Q rest ⟨(d,.pl (.int ik (ik.wrap (x+y))))::T,hset H b (.box tb (cs.set o (.pl (.int ik (ik.wrap (x+y)))))),M⟩)(hP:c.P=P:=by exact rfl)(hname:(fn.name== "runtime.NumGoroutine")=false:=by kernel_rfl)(hbd:fn.body.isNone=true:=by kernel_rfl)(hn:Extern.findNext fn=none:=by kernel_rfl)(hE:Extern.find fn=some (Extern.Atomic.update (Op.intArith .add) ik true):=by exact rfl)
 (hk:calleeOf T cl.callee=some (k,[],[]):=by exact rfl) (ha:opvL T cl.args.toList=some [.ptr b o,.pl (.int ik y)]:=by exact rfl) (hb:hget H b=some (.box tb cs):=by exact rfl) (hc:cs[o]? =some (.pl (.int ik x)):=by exact rfl) (hdo:dstOk c.N (some d)=true:=by exact rfl):RunL c ops Q (⟨some d,.call cl,ty,pos,af,none⟩::rest) ⟨T,H,M⟩:=by
 subst hP
 exact Jd (s:=⟨T,H,M⟩) (e_cellop (ks:=[.int ik y]) hk ha hb hc rfl (fun ad w h1 h2 h3=>at_add hf hname hbd hn hE x y ad w h1 h2) hdo) rfl hnext
theorem n_astore {v u:Value}(hf:P.funcs[k]? =some fn)(hnext:RunM c ops hot Q lq ⟨(d,.pl (.tuple #[]))::T,hset H b (.box tb (cs.set o (.pl v))),M⟩)(hP:c.P=P:=by exact rfl)(hh:mem i0 hot=true:=by exact rfl)(hname:(fn.name== "runtime.NumGoroutine")=false:=by kernel_rfl)(hbd:fn.body.isNone=true:=by kernel_rfl)(hn:Extern.findNext fn=none:=by kernel_rfl)(hE:Extern.find fn=some Extern.Atomic.storeT:=by exact rfl)
 (hk:calleeOf T cl.callee=some (k,[],[]):=by exact rfl) (ha:opvL T cl.args.toList=some [.ptr b o,.pl v]:=by exact rfl) (hb:hget H b=some (.box tb cs):=by exact rfl) (hc:cs[o]? =some (.pl u):=by exact rfl) (h1:v.oneCell'=true:=by exact rfl) (hdo:dstOk c.N (some d)=true:=by exact rfl):RunN c ops hot Q i0 true ⟨some d,.call cl,ty,pos,af,none⟩ lq ⟨T,H,M⟩:=by
 subst hP
 exact RunN_e (s:=⟨T,H,M⟩) hh (e_cellop (ks:=[v]) hk ha hb hc h1 (fun ad w h2 h3 h4=>at_store hf hname hbd hn hE v u h1 ad w h2 h3) hdo) rfl hnext
end
end Go.Abs
namespace Go.Abs
open Go Go.RowKit Go.Proofs W
variable [GTab]
section
variable {c:Ctx} {s:St} {d:Option Tmp} {ty:TypeId} {pos:String} {af:Array Edge} {g:Option (Nat×Bool)}
theorem s_indexArr {t:TypeId}{x y:Operand}{b o n:Nat}{k:IntKind}{i:Nat}{ti ei:TI}{e:TypeId}(ht:tget c.U t=some ti)(hd:ti.desc= .array n e)(he:tget c.U e=some ei)
 (hx:opv s.T x=some (.ptr b o)) (hy:opv s.T y=some (.pl (.int k (i:Int)))) (hi:i<n):QOpS c ⟨d,.indexAddr t x y,ty,pos,af,g⟩ s (.ptr b (o+i*ei.size)):=by
 intro a w β hs
 obtain ⟨p,hp,hn,hv⟩:=(hs.op hx).ptr_inv
 have hu':=zx ht
 rw [hd] at hu'
 refine ⟨.pointer (some ⟨p.blk,p.st+(o+i*ei.size),none⟩),.ptr hp hn,fun w'=> ?_⟩
 simp [execOp,hv,hs.pl hy,Instr.indexAt,Instr.sureAddr,asIntOf,run_underlying hu',hi,QS he,a_add,Nat.add_assoc]
theorem e_appendK {t:TypeId}{y:Operand}{b k m:Nat}{ds:List AV}{ay:AV}{ti ei:TI}{e:TypeId}(hb:hget s.H b=none)(ht:tget c.U t=some ti)(htd:ti.desc= .slice e)(he:tget c.U e=some ei)(hk:ei.size=k)(hzs:ei.zero.cells.size=k)(hbp:0<ei.bytes)
 (hy:opv s.T y=some ay) (hsrc:srcAt ((b,.row e k 0 [])::s.H) k ay=some (m,ds)) (hds:ds.length=m*k) (hbytes:m*ei.bytes≤140737488355328) (hd:dstOk c.N d=true):
 EOp c ⟨d,.call {callee:= .builtin .append,args:= #[.const (.slice none 0 0),y],argTypes:= #[t,t]},ty,pos,af,g⟩ s ⟨putT (killT b s.T) d (.sl b 0 m),(b,.row e k 0 ds)::killH b ((b,.row e k 0 [])::s.H),b::s.M⟩:=by
 intro a w β hs
 let p:Place:=⟨0,0,0,k,true⟩
 have hs1:=hs.newobj (w':=w) hb p (.inr trivial) (fun h=>by cases h) ⟨rfl,⟨rfl,Nat.le_refl _⟩,rfl,Nat.le_refl _,fun _ _ _=>rfl⟩ (o:= .row e k 0 []) ⟨rfl,(fun _=>rfl),(fun h=>by cases h)⟩
 have hx:VRel c.F (upd β b p) w (.sl b 0 0) (.slice none 0 0):= .slz (p:=p) (ZD _ _ _) (fun _ h=>by cases h)
 obtain ⟨r,w',β',hrun,hs',hr⟩:=append_core (ty:=ty) hs1 ht htd he hk hzs hbp hx (by rw [qd,if_pos rfl]) (by simp) (Nat.zero_le _) (hs1.src (hs1.op hy) hsrc hds) hds (by rw [Nat.zero_add];exact hbytes)
 rw [Nat.zero_add] at hr
 simp only [Nat.sub_self,List.drop_nil,List.take_nil,List.nil_append] at hs'
 have h2:a.eval (.const (.slice none 0 0))= .slice none 0 0:=rfl
 exact ⟨w',β',.inl ⟨r,by simp [execOp,resolve,invoke,builtin,hrun,h2],hs'.put hd hr⟩⟩
end
section
variable {c:Ctx} {Q:Exit→Act→World→Prop} {T:List (Nat×AV)} {H:List (Nat×AObj)} {M:List Nat} {ops:Array Oper} {rest:List Oper} {d:Tmp} {ty:TypeId} {pos:String} {af:Array Edge} {hot:List Nat} {lq:Plan} {i0:Nat}
theorem l_aidx {te:TypeId}{α ρ:Type}{l:List α}{e:α→List AV}{kk:α→Option ρ}{r:ρ}{b fz sz n:Nat}{t:TypeId}{x y:Operand}{k:IntKind}{i:Int}{ti ei:TI}{et:TypeId}(h:(atA n l i).bind kk=some r)(hn: ∀ a,at' l i=some a→kk a=some r→RunL c ops Q rest ⟨(d,.ptr b (i.toNat*sz))::T,H,M⟩)
 (ht:tget c.U t=some ti:=by exact rfl) (htd:ti.desc= .array n et:=by exact rfl) (he:tget c.U et=some ei:=by exact rfl) (hsz:ei.size=sz:=by exact rfl) (hx:opv T x=some (.ptr b 0):=by exact rfl) (hb:hget H b=some (.row te sz fz (F e l)):=by exact rfl) (hy:opv T y=some (.pl (.int k i)):=by exact rfl) (hdo:dstOk c.N (some d)=true:=by exact rfl):RunL c ops Q (⟨some d,.indexAddr t x y,ty,pos,af,none⟩::rest) ⟨T,H,M⟩:=by
 obtain ⟨a,ha,h⟩:=bind_some h;obtain ⟨⟨h0,hlt⟩,ha'⟩:=atA_some ha
 have hi:((i.toNat:Nat):Int)=i:=Int.toNat_of_nonneg h0
 rw [←hi] at hy
 subst hsz
 have hq:=(s_indexArr (d:=some d) (ty:=ty) (pos:=pos) (af:=af) (g:=none) (s:=⟨T,H,M⟩) ht htd he hx hy (by omega)).later
 rw [Nat.zero_add] at hq
 exact qi (s:=⟨T,H,M⟩) hq rfl hdo (hn a ha' h)
theorem F_zero (n:Nat):F cU (List.replicate n (0:UInt8))=List.replicate n (AV.pl (.int .u8 0)):=by
 induction n with
 |zero=>rfl
 |succ n ih=>rw [List.replicate_succ,List.replicate_succ,←ih];rfl
theorem l_anew {d1 d2:Tmp}{ty1 ty2 ty3:TypeId}{pos1 pos2 pos3:String}{af1 af2 af3:Array Edge}{t:TypeId}(n:Nat){ti:TI}{et:TypeId}
 (hnext:RunL c ops Q rest ⟨(d2,.ptr (nm (some d2)) 0)::(d1,.gone)::T,(nm (some d2),.row t 1 0 (F cU (List.replicate n (0:UInt8))))::H,M⟩)
 (ht:tget c.U t=some ti:=by exact rfl) (htd:ti.desc= .array n et:=by exact rfl) (hse: ∃ ei,tget c.U et=some ei:=by exact ⟨_,rfl⟩) (hz:ti.zero= .agg (Array.replicate n (.int .u8 0)):=by kernel_rfl) (hsz:ti.size=n:=by exact rfl) (hn0:Nat.blt 0 n=true:=by exact rfl)
 (hb:hget H (nm (some d2))=none:=by exact rfl) (hne:Nat.beq d1 d2=false:=by exact rfl) (hdo:dstOk c.N (some d1)=true:=by exact rfl) (hdo2:dstOk c.N (some d2)=true:=by exact rfl):
 RunL c ops Q (⟨some d1,.build t #[],ty1,pos1,af1,none⟩::⟨some d2,.alloc t,ty2,pos2,af2,none⟩::⟨none,.store t (.tmp d2) (.tmp d1),ty3,pos3,af3,none⟩::rest) ⟨T,H,M⟩:=by
 rintro a w ⟨β,hs⟩
 have hu:c.P.underlying t=some (.array n et):=(zx ht).trans (congrArg some htd)
 obtain ⟨ei,he⟩:=hse
 let Z:Array Value:=Array.replicate n (.int .u8 0)
 have hzr: ∀ w',(zeroValue t).run c.P w'= .ok (.agg Z) w':=fun w'=>(ty_zero ht w').trans (by rw [hz])
 have hZs:Z.size=n:=by simp [Z]
 -- the first
 have hr1:(execOp a.eval ⟨some d1,.build t #[],ty1,pos1,af1,none⟩).run c.P w= .ok (.value (.agg Z)) w:=by
  simp [execOp,Instr.build,hzr,run_underlying hu,QS he,Value.cells,Instr.fill]
 refine wpList_plain rfl fun K hK=> ?_;unfold Oper.wp
 rw [hr1,Oper.upon_value]
 have hs1:=hs.put (d:=some d1) hdo (x:= .gone) (v:= .agg Z) .gone
 -- the second
 let a1:=a.put (some d1) (.agg Z)
 have hr2:(execOp a1.eval ⟨some d2,.alloc t,ty2,pos2,af2,none⟩).run c.P w= .ok (.value (.pointer (some ⟨w.heap.size,0,none⟩))) (w.alloc (.cells Z t)):=by
  simp [execOp,Instr.alloc,hzr,newVar,newRow,Value.cells]
 refine hK _ _ (wpList_plain rfl fun K2 hK2=> ?_);unfold Oper.wp
 rw [hr2,Oper.upon_value]
 let p:Place:=⟨w.heap.size,0,n,1,false⟩
 have hFl:(F cU (List.replicate n (0:UInt8))).length=n:=by rw [F_zero,List.length_replicate]
 have hro: ∀ w',ORel c.F (upd β (nm (some d2)) p) w' p (.row t 1 0 (F cU (List.replicate n (0:UInt8))))↔ ∃ cv fr,CellsAt w' p.blk t cv fr∧p.lim=cv.size∧p.st+n≤cv.size∧(∀ (i:Nat) (x:AV),(F cU (List.replicate n (0:UInt8)))[i]? =some x→ ∃ v,cv[p.st+i]? =some v∧CRel (off c.F (upd β (nm (some d2)) p)) w' x v∧v.oneCell'=true)∧(∀ o,o<cv.size→fr.1≤o→o<fr.2→o<p.st+0):=fun w'=>
  ⟨fun h=>by obtain ⟨_,_,h⟩:=h;obtain ⟨cv,fr,h1,h2,h3,h4,h5⟩:=h rfl;exact ⟨cv,fr,h1,h2,by rw [hFl] at h3;exact h3,h4,h5⟩,fun ⟨cv,fr,h1,h2,h3,h4,h5⟩=>⟨rfl,(fun h=>by cases h),fun _=>⟨cv,fr,h1,h2,by rw [hFl];exact h3,h4,h5⟩⟩⟩
 have hcell: ∀ (Y:Array Value) (w':World),Y=Z→ ∀ (i:Nat) (x:AV),(F cU (List.replicate n (0:UInt8)))[i]? =some x→ ∃ v,Y[p.st+i]? =some v∧CRel (off c.F (upd β (nm (some d2)) p)) w' x v∧v.oneCell'=true:=by
  rintro Y w' rfl i x hx
  rw [F_zero,List.getElem?_replicate] at hx
  split at hx
  ·rename_i hi
   cases hx
   refine ⟨.int .u8 0,?_,.pl _,rfl⟩
   show Z[0+i]? =_
   rw [Nat.zero_add,Array.getElem?_replicate,if_pos hi]
  ·cases hx
 have hs2:=hs1.newobj (w':=w.alloc (.cells Z t)) hb p (.inl rfl) (fun _=>⟨Nat.le_refl _,(by show w.heap.size<(w.heap.push _).size;rw [Array.size_push];exact Nat.lt_succ_self _)⟩) (But.alloc _ _)
  ((hro _).2 ⟨Z,(0,0),⟨qJ _ _,fun _=>Nat.zero_le _⟩,hZs.symm,by show 0+n≤Z.size;omega,hcell Z _ rfl,fun o _ _ h=>by simp at h⟩)
 have hs3:=hs2.put (d:=some d2) hdo2 (x:= .ptr (nm (some d2)) 0) (v:= .pointer (some ⟨w.heap.size,0+0,none⟩)) (.ptr (p:=p) (ZD _ _ _) rfl)
 let a2:=a1.put (some d2) (.pointer (some ⟨w.heap.size,0,none⟩))
 -- the third
 have hsz1:d1<a.tmps.size:=by rw [hs.size];simpa [dstOk,Nat.blt_eq] using hdo
 have hsz2:d2<a.tmps.size:=by rw [hs.size];simpa [dstOk,Nat.blt_eq] using hdo2
 have hne':d1≠d2:=Nat.ne_of_beq_eq_false hne
 have ev1:a2.eval (.tmp d1)= .agg Z:=by simp [a2,a1,Act.eval,Act.put,Array.getElem?_setIfInBounds,hsz1,hne'.symm]
 have ev2:a2.eval (.tmp d2)= .pointer (some ⟨w.heap.size,0,none⟩):=by simp [a2,a1,Act.eval,Act.put,Array.getElem?_setIfInBounds,hsz2]
 have hcv:CellsAt (w.alloc (.cells Z t)) w.heap.size t Z (0,0):=⟨qJ _ _,fun _=>Nat.zero_le _⟩
 have hst:=run_storeVar (P:=c.P) hcv (QS ht _) (v:= .agg Z) (o:=0) (by rw [hsz];exact hZs) (fun u hu=>by
  simp only [Value.cells,Z,Array.toList_replicate] at hu
  rw [List.eq_of_mem_replicate hu];rfl) (by rw [hsz];omega) (fun i h1 h2 h3 h4=>by simp at h4)
 have hr3:(execOp a2.eval ⟨none,.store t (.tmp d2) (.tmp d1),ty3,pos3,af3,none⟩).run c.P (w.alloc (.cells Z t))= .ok .skip ((w.alloc (.cells Z t)).setCells w.heap.size 0 (Value.agg Z).cells.toList):=by
  simp [execOp,ev1,ev2,Instr.storeAt,Instr.sureAddr,hst]
 refine hK2 _ _ (wpList_plain rfl fun K3 hK3=> ?_);unfold Oper.wp
 rw [hr3,Oper.upon_skip]
 have hwr:wr Z 0 Z.toList=Z:=by
  apply Array.ext_getElem?
  intro i
  rw [wr_get _ _ _ _ (by simp)]
  split
  ·rw [Nat.sub_zero];simp
  ·rfl
 have hs4:=hs3.setobj (ZD _ _ _) rfl (But.setCells w.heap.size (Value.agg Z).cells.toList 0 (w.alloc (.cells Z t))) (o:= .row t 1 0 (F cU (List.replicate n (0:UInt8))))
  ((hro _).2 ⟨wr Z 0 Z.toList,(0,0),zaa _ _ hcv,by rw [qS];exact hZs.symm,by rw [qS];show 0+n≤Z.size;omega,hcell _ _ hwr,fun o _ _ h=>by simp at h⟩)
 have hH:hset ((nm (some d2),AObj.row t 1 0 (F cU (List.replicate n (0:UInt8))))::H) (nm (some d2)) (.row t 1 0 (F cU (List.replicate n (0:UInt8))))=(nm (some d2),.row t 1 0 (F cU (List.replicate n (0:UInt8))))::hdel H (nm (some d2)):=by
  simp [hset,hdel]
 refine hK3 _ _ (hnext _ _ ⟨_,hs4.defers,hs4.size,?_,hs4.slot,hs4.keeps,hs4.stay⟩)
 have hdelH:hdel H (nm (some d2))=H:=by
  have: ∀ L:List (Nat×AObj),hget L (nm (some d2))=none→hdel L (nm (some d2))=L:=by
   intro L
   induction L with
   |nil=>intro _;rfl
   |cons q r ih=>
    obtain ⟨j,x⟩:=q
    intro h
    rw [qd] at h
    by_cases e:j=nm (some d2)
    ·rw [if_pos e] at h;cases h
    ·rw [if_neg e] at h
     simp only [hdel]
     split
     ·rename_i hh;exact absurd (Nat.eq_of_beq_eq_true hh) e
     ·rw [ih h]
  exact this H hb
 have:=hs4.heap
 rw [hH,hdelH] at this
 exact this
theorem l_appc {te':TypeId}{α ρ:Type}{e:α→List AV}{kk:List α→Option ρ}{r:ρ}{m:List α}{sz b' k fz':Nat}{t:TypeId}{y:Operand}{ti ei:TI}{et:TypeId}(h:(app sz ([]:List α) m).bind kk=some r)
 (hn: ∀ v,app sz ([]:List α) m=some v→kk v=some r→RunL c ops Q rest ⟨(d,.sl (nm (some d)) 0 v.length)::killT (nm (some d)) T,(nm (some d),.row et k 0 (F e v))::killH (nm (some d)) ((nm (some d),.row et k 0 [])::H),nm (some d)::M⟩)
 (ht:tget c.U t=some ti:=by exact rfl) (htd:ti.desc= .slice et:=by exact rfl) (he:tget c.U et=some ei:=by exact rfl) (hk:ei.size=k:=by exact rfl) (hzs:ei.zero.cells.size=k:=by exact rfl) (hbb:ei.bytes=sz:=by exact rfl) (hbp:Nat.blt 0 sz=true:=by exact rfl) (hb:hget H (nm (some d))=none:=by exact rfl)
 (hy:opv T y=some (.sl b' 0 m.length):=by exact rfl) (hb':hget H b'=some (.row te' k fz' (F e m)):=by exact rfl) (hz: ∀ a,(e a).length=k:=by exact fun _=>rfl) (hdo:dstOk c.N (some d)=true:=by exact rfl):
 RunL c ops Q (⟨some d,.call {callee:= .builtin .append,args:= #[.const (.slice none 0 0),y],argTypes:= #[t,t]},ty,pos,af,none⟩::rest) ⟨T,H,M⟩:=by
 obtain ⟨v,hv,h⟩:=bind_some h
 have h2:=hn v hv h
 obtain ⟨hl,e0⟩:=app_some hv
 rw [List.nil_append] at e0
 subst e0
 subst hbb
 have hbp:0<ei.bytes:=by simpa [Nat.blt_eq] using hbp
 have hne:nm (some d)≠b':=fun e=>by rw [e] at hb;rw [hb] at hb';cases hb'
 have hb2:hget ((nm (some d),AObj.row et k 0 [])::H) b'=some (.row te' k fz' (F e v)):=by rw [qd,if_neg hne];exact hb'
 refine Jd (s:=⟨T,H,M⟩) (e_appendK hb ht htd he hk hzs hbp hy (show srcAt ((nm (some d),.row et k 0 [])::H) k (.sl b' 0 v.length)=some (v.length,F e v) by simp only [srcAt,hb2,List.drop_zero];rw [List.take_of_length_le (by rw [Qv hz];omega)]) (Qv hz v) (by simpa using hl) hdo) rfl h2
theorem VRel.ifc_inv {F:Nat→Prop}{β:Emb}{w:World}{t:TypeId}{x:AV}{v:Value}(h:VRel F β w (.ifc t x) v): ∃ u,v= .iface t u∧VRel F β w x u:=by
 cases h with
 |c h=>cases h with
  |ifc h=>exact ⟨_,rfl,.c h⟩
 |ifc h=>exact ⟨_,rfl,h⟩
theorem RL_callXI {H1 H2 H':List (Nat×AObj)}{mv:List Nat}{d:Option Tmp}{k:FuncId}{r xr y:AV}{t:TypeId}{recv ya:Operand}{name:String}{argTs:Array TypeId}(ns:List Nat)(hspec:XSpec c.P k [xr,y] H1 r H' mv)(hr:opv T recv=some (.ifc t xr))(hy:opv T ya=some y)
 (hm: ∀ (v u:Value) (w:World),(callMethod (.iface t v) name #[u]).run c.P w= .ok (.enter k #[v,u]) w) (hH1:hpick ns H=H1) (hok:honly ns H1=true) (hon:AV.onlyL ns [xr,y]=true) (hH2:hrest ns H=H2) (hap:hapart H' H2=true) (hdo:dstOk c.N d=true)
 (hnext:RunL c ops Q rest ⟨putT (kiT mv T) d r,H'++kiH mv H2,mv++M⟩):RunL c ops Q (⟨d,.call {callee:= .invoke recv name,args:= #[ya],argTypes:=argTs},ty,pos,af,none⟩::rest) ⟨T,H,M⟩:=by
 rintro a w ⟨β,hs⟩
 obtain ⟨u,hu,hur⟩:=(hs.op hr).ifc_inv
 have hyv:=hs.op hy
 have hrun:(execOp a.eval ⟨d,.call {callee:= .invoke recv name,args:= #[ya],argTypes:=argTs},ty,pos,af,none⟩).run c.P w= .ok (.enter k #[u,a.eval ya]) w:=by
  simp [execOp,resolve,invoke,hu,hm]
 have hA:Args c.F β w [xr,y] [u,a.eval ya]:=⟨rfl,fun i x v hx hv=>by
  match i,hx,hv with
  |0,hx,hv=>simp at hx hv;subst hx hv;exact hur
  |1,hx,hv=>simp at hx hv;subst hx hv;exact hyv
  |i+2,hx,hv=>simp at hx⟩
 refine wpList_plain rfl fun K hK=> ?_;unfold Oper.wp
 rw [hrun,Oper.upon_enter]
 refine (xcalls ns hspec hs hA hH1 hok hon hH2 hap hdo).mono ?_
 rintro e w' ⟨v,rfl,hs',_⟩
 exact hK _ _ (hnext _ _ hs')
theorem l_callXI {α ρ:Type}{P:Program}{g:Option α}{kk:α→Option ρ}{r:ρ}{E:α→AV}{Hf H1 H2:List (Nat×AObj)}{H':α→List (Nat×AObj)}{mv mv':List Nat}{k:FuncId}{xr y:AV}{t:TypeId}{recv ya:Operand}{name:String}{argTs:Array TypeId}{args:List AV}(ws:List (Nat×Nat))(ns:List Nat)(h:g.bind kk=some r)(hs: ∀ v,g=some v→XSpec P k args Hf (E v) (H' v) mv)
 (hn: ∀ v,g=some v→kk v=some r→RunL c ops Q rest ⟨putT (kiT mv' T) (some d) ((E v).mapN (swL ws)),swH ws (H' v)++kiH mv' H2,mv'++M⟩)
 (hmv:mv.map (swp ws)=mv':=by exact rfl) (hP:c.P=P:=by exact rfl) (hr:opv T recv=some (.ifc t xr):=by exact rfl) (hy:opv T ya=some y:=by exact rfl) (hm: ∀ (v u:Value) (w:World),(callMethod (.iface t v) name #[u]).run P w= .ok (.enter k #[v,u]) w:=by intros;kernel_rfl) (hargs:AV.mapNL (swL ws) [xr,y]=args:=by exact rfl) (hH1:hpick ns H=H1:=by exact rfl) (hHf:swH ws H1=Hf:=by exact rfl)
 (hok:honly ns H1=true:=by exact rfl) (hon:AV.onlyL ns [xr,y]=true:=by exact rfl) (hH2:hrest ns H=H2:=by exact rfl) (hap: ∀ v,hapart (swH ws (H' v)) H2=true:=by exact fun _=>rfl) (hdo:dstOk c.N (some d)=true:=by exact rfl) (hw:nodupB (swN ws)=true:=by exact rfl):
 RunL c ops Q (⟨some d,.call {callee:= .invoke recv name,args:= #[ya],argTypes:=argTs},ty,pos,af,none⟩::rest) ⟨T,H,M⟩:=by
 obtain ⟨v,hv,h⟩:=bind_some h
 subst hP hmv
 exact RL_callXI ns ((hs v hv).sw ws hw hargs hHf) hr hy hm hH1 hok hon hH2 (hap v) hdo (hn v hv h)
theorem n_callK {P:Program}{cl:Call}{k:FuncId}{first cap es args:List AV}{E:AV}(hs:XSpec P k args [] E [] [])(hnext:RunM c ops hot Q lq ⟨(d,E)::T,H,M⟩)(hP:c.P=P:=by exact rfl)(hk:calleeOf T cl.callee=some (k,first,cap):=by exact rfl)(ha:opvL T cl.args.toList=some es:=by exact rfl)(hargs:first++es++cap=args:=by exact rfl)(hcl:AV.onlyL [] args=true:=by exact rfl)(hdo:dstOk c.N (some d)=true:=by exact rfl):
 RunN c ops hot Q i0 true ⟨some d,.call cl,ty,pos,af,none⟩ lq ⟨T,H,M⟩:=by
 subst hP
 exact RN_pcall hs.p rfl hk ha hargs hcl hdo hnext
theorem l_nnil {t t':TypeId}{x:Operand}{ti:TI}{e:TypeId}(hnext:RunL c ops Q rest ⟨(d,B true)::T,H,M⟩)(ht:tget c.U t=some ti:=by exact rfl)(htd:ti.desc= .slice e:=by exact rfl)(hx:opv T x=some (.pl (.slice none 0 0)):=by exact rfl)(hdo:dstOk c.N (some d)=true:=by exact rfl):
 RunL c ops Q (⟨some d,.binOp .eql t x (.const (.slice none 0 0)) t',ty,pos,af,none⟩::rest) ⟨T,H,M⟩:=by
 have hu:=zx ht
 rw [htd] at hu
 refine qi (s:=⟨T,H,M⟩) (x:=B true) (fun a w β hs=>⟨.bool true,.c (.pl _),fun w' _=> ?_⟩) rfl hdo hnext
 have hv:a.eval x= .slice none 0 0:=hs.pl hx
 have h2:a.eval (.const (.slice none 0 0))= .slice none 0 0:=rfl
 have h3:eqGuard .eql t x (.const (.slice none 0 0)) (.slice none 0 0) (.slice none 0 0)=pure ():=rfl
 simp [execOp,hv,h2,h3,run_equal_nil hu]
theorem l_nenil {α ρ:Type}{l:List α}{kk:Unit→Option ρ}{r:ρ}{b:Nat}{t t':TypeId}{x:Operand}{ti:TI}{e:TypeId}(h:(ne0 l).bind kk=some r)(hn: ∀ u,ne0 l=some u→kk u=some r→RunL c ops Q rest ⟨(d,B false)::T,H,M⟩)(ht:tget c.U t=some ti:=by exact rfl)(htd:ti.desc= .slice e:=by exact rfl)(hx:opv T x=some (.sl b 0 l.length):=by exact rfl)(hdo:dstOk c.N (some d)=true:=by exact rfl):
 RunL c ops Q (⟨some d,.binOp .eql t x (.const (.slice none 0 0)) t',ty,pos,af,none⟩::rest) ⟨T,H,M⟩:=by
 obtain ⟨u,hu0,h⟩:=bind_some h
 have hl:=ne0_some hu0
 have hu:=zx ht
 rw [htd] at hu
 refine qi (s:=⟨T,H,M⟩) (x:=B false) (fun a w β hs=>⟨.bool false,.c (.pl _),fun w' _=> ?_⟩) rfl hdo (hn u hu0 h);obtain ⟨p,hp,⟨_,cap,hv,_⟩|⟨h0,_⟩⟩:=(hs.op hx).sl_inv2
 ·have h2:a.eval (.const (.slice none 0 0))= .slice none 0 0:=rfl
  have h3: ∀ A n cap,eqGuard .eql t x (.const (.slice none 0 0)) (.slice A n cap) (.slice none 0 0)=pure ():=fun _ _ _=>rfl
  simp [execOp,hv,h2,h3,run_equal_nil hu]
 ·omega
end
end Go.Abs
set_option maxRecDepth 20000
namespace Go.Abs
open Go Go.RowKit Go.Proofs W
variable [GTab]
section
variable {c:Ctx} {Q:Exit→Act→World→Prop} {s:St} {ops:Array Oper} {rest:List Oper} {d:Option Tmp} {ty:TypeId} {pos:String} {af:Array Edge} {g:Option (Nat×Bool)}
end
section
variable {c:Ctx} {Q:Exit→Act→World→Prop} {T:List (Nat×AV)} {H:List (Nat×AObj)} {M:List Nat} {ops:Array Oper} {rest:List Oper} {d:Tmp} {ty:TypeId} {pos:String} {af:Array Edge} {hot:List Nat} {lq:Plan} {i0:Nat}
end
end Go.Abs
namespace Go.Abs
open Go Go.RowKit Go.Proofs
theorem run_copyK {P:Program}{k:Nat}(w:World)(dT sT ty elem:TypeId)(b o dLen dCap:Nat)(a:Addr)(sLen sCap:Nat)(cs:List Value)
 (hu:P.underlying dT=some (.slice elem)) (hs:(P.info? elem).map (·.size)=some k) (hn:cs.length=Nat.min sLen dLen*k)
 (hsrc: ∀ j v,cs[j]? =some v→w.cell? (a.add j)=some v) (hc: ∀ j,j<cs.length→(w.cell? ⟨b,o+j,none⟩).isSome=true) (hf: ∀ j,j<cs.length→w.frozen? ⟨b,o+j,none⟩=false) (h1: ∀ v∈cs,v.oneCell'=true):
 (Builtin.copy_ #[dT,sT] ty #[.slice (some ⟨b,o,none⟩) dLen dCap,.slice (some a) sLen sCap]).run P w= .ok (goInt (Nat.min sLen dLen)) (w.setCells b o cs):=by
 have hl:=run_loadCells_list (P:=P) w a cs hsrc
 have hst:=run_storeCells_cells (P:=P) b o cs 0 w (by simpa using hc) (by simpa using hf) h1
 cases hq:P.info? elem with
 |none=>simp [hq] at hs
 |some i=>
  have hi:i.size=k:=by simpa [hq] using hs
  simp [Builtin.copy_,run_underlying hu,Builtin.lenOf,Builtin.firstCells,sizeOf,typeInfo,hq,hi,←hn,hl,hst]
variable [GTab]
structure InsW (P:Program) (f:FuncId) (S E:TypeId) (k B:Nat) (Z:Value):Prop where
 nothing: ∀ (A0 B0:Option Addr) (n c i vc:Nat) (w:World),i≤n→n≤c→Calls P f #[.slice A0 n c,.int .i64 i,.slice B0 0 vc] w fun e w'=>e= .returned (.slice A0 n c)∧w'=w
 last: ∀ (A0 B0:Option Addr) (n c m vc:Nat) (w w2:World) (r:Value),0<m→n≤c→(∀ a,A0=some a→a.spot=none∨c=n)→
  (∀ ty,(Builtin.append_ #[S,S] ty #[.slice A0 n c,.slice B0 m vc]).run P w= .ok r w2)→
  Calls P f #[.slice A0 n c,.int .i64 n,.slice B0 m vc] w fun e w'=>e= .returned r∧w'=w2
 shift: ∀ (b off n c i vb voff m vc:Nat) (cs vs:List Value) (w:World),i<n→0<m→n+m≤c→(n+m)*B≤140737488355328→vb≠b→cs.length=n*k→vs.length=m*k→
  (∀ j v,cs[j]? =some v→w.cell? ⟨b,off+j,none⟩=some v)→(∀ j,j<(n+m)*k→(w.cell? ⟨b,off+j,none⟩).isSome=true)→(∀ j,j<(n+m)*k→w.frozen? ⟨b,off+j,none⟩=false)→
  (∀ j v,vs[j]? =some v→w.cell? ⟨vb,voff+j,none⟩=some v)→(∀ v∈cs,v.oneCell'=true)→(∀ v∈vs,v.oneCell'=true)→
  ∀ (tA tB:TypeId) (kA kB:Nat),w.shape? vb=some (tA,kA)→w.shape? b=some (tB,kB)→kB≠0→w.frozen? ⟨vb,voff,none⟩=false→w.frozen? ⟨vb,kA,none⟩=false→
  Calls P f #[.slice (some ⟨b,off,none⟩) n c,.int .i64 i,.slice (some ⟨vb,voff,none⟩) m vc] w fun e w'=>
   e= .returned (.slice (some ⟨b,off,none⟩) (n+m) c)∧w'=(w.drew.setCells b (off+(i+m)*k) (cs.drop (i*k))).setCells b (off+i*k) vs
 grow: ∀ (b off n c i vb voff m vc:Nat) (cs vs:List Value) (w:World),i<n→0<m→n≤c→c<n+m→(n+m)*B≤140737488355328→cs.length=n*k→vs.length=m*k→
  (∀ j v,cs[j]? =some v→w.cell? ⟨b,off+j,none⟩=some v)→(∀ j v,vs[j]? =some v→w.cell? ⟨vb,voff+j,none⟩=some v)→(∀ v∈cs,v.oneCell'=true)→(∀ v∈vs,v.oneCell'=true)→
  Calls P f #[.slice (some ⟨b,off,none⟩) n c,.int .i64 i,.slice (some ⟨vb,voff,none⟩) m vc] w fun e w'=>
   e= .returned (.slice (some ⟨w.heap.size,0,none⟩) (n+m) (grownCap w (n+m) c E))∧
   w'=(((w.alloc (.cells ((cs.take (i*k)).toArray++Builtin.zeroCells Z.cells (n+m-i)++Builtin.zeroCells Z.cells (grownCap w (n+m) c E-(n+m))) E)).drew.setCells w.heap.size (i*k) vs).drew).setCells w.heap.size ((i+m)*k) (cs.drop (i*k))
theorem ins_fin {P:Program}{U:List (Nat×TI)}{hU:TabOk P U}{F0:Nat→Prop}{β β':Emb}{w w':World}{a':Act}{T:List (Nat×AV)}{M:List Nat}{n:Nat}{o1 o3:AObj}{r:Value}(h:SatB ⟨P,U,hU,F0,β,w,4,[]⟩ ⟨T,[(101,o1),(103,o3)],M⟩ β' a' w')(ho:o1.kill 103=o1)
 (hM:subM (103::M) [103,101]=true) (hr:VRel F0 β' w' (.sl 101 0 n) r):Rpost (fun r' H'' M=>r'= .sl 101 0 n∧H''=[(101,o1)]∧M=[103,101]) F0 β w (.returned r) w':=by
 have h1:=h.put (d:=some 3) rfl hr
 obtain ⟨β2,h3⟩:=(Sat.drop (⟨β',h1⟩:Sat _ ⟨putT T (some 3) (.sl 101 0 n),[(101,o1),(103,o3)],M⟩ _ _) 103).less (T':=[(3,.sl 101 0 n)]) (M':=[103,101]) ⟨rfl,True.intro⟩ hM;obtain ⟨v,hv,hvr⟩:=h3.slot 3 (.sl 101 0 n) rfl
 have:v=r:=by
  have hsz:(3:Nat)<a'.tmps.size:=by rw [h.size];exact Nat.lt_succ_self 3
  simp [Act.put,hsz] at hv
  exact hv.symm
 subst this
 have hH:killH 103 [(101,o1),(103,o3)]=[(101,o1)]:=by
  show [(101,o1.kill 103)]=_
  rw [ho]
 exact ⟨.sl 101 0 n,v,[(101,o1)],[103,101],β2,rfl,⟨rfl,rfl,rfl⟩,by have:=h3.heap;rw [hH] at this;exact this,hvr,h3.keeps,fun b p hp hm=>h3.stay b p hp hm⟩
theorem ins_x {P:Program}{U:List (Nat×TI)}(hU:TabOk P U){f:FuncId}{S E:TypeId}{k B:Nat}{Z:Value}(hW:InsW P f S E k B Z){ti ei:TI}(ht:tget U S=some ti)(htd:ti.desc= .slice E)(he:tget U E=some ei)(hk:ei.size=k)(k0:0<k)(hzs:ei.zero.cells.size=k)(hzz:ei.zero=Z)
 (hB:ei.bytes=B) (hB0:0<B) (hview:GTab.view E=false) (hf: ∀ (es:Array Value) (w:World),(callFunc f es).run P w= .ok (.enter f es) w) {α:Type} {e:α→List AV} (hel: ∀ a,(e a).length=k) (x v:List α) (i:Nat) (hi:i≤x.length) (hbytes:(x.length+v.length)*B≤140737488355328):
 XSpec P f [.sl 101 0 x.length,.pl (.int .i64 (i:Int)),.sl 103 0 v.length] [(101,.row E k 0 (F e x)),(103,.row E k 0 (F e v))] (.sl 101 0 (x.take i++v++x.drop i).length) [(101,.row E k 0 (F e (x.take i++v++x.drop i)))] [103,101]:=by
 have hnl:(x.take i++v++x.drop i).length=x.length+v.length:=by simp;omega
 have hFl: ∀ l:List α,(F e l).length=l.length*k:=Qv hel
 refine ⟨hf,fun F0 β w vs hH hA=> ?_⟩
 have hs:=SatB.enter (P:=P) (hU:=hU) (N:=4) hH hA rfl
 obtain ⟨hlen,hall⟩:=hA
 match vs,hlen with
 |[v1,v2,v3],_=>
 have hv1:=hall 0 _ v1 rfl rfl
 have hv2:=hall 1 _ v2 rfl rfl
 have hv3:=hall 2 _ v3 rfl rfl
 obtain rfl:=hv2.pl_eq;obtain ⟨p1,hp1,hc1⟩:=hv1.sl_inv2;obtain ⟨p3,hp3,hc3⟩:=hv3.sl_inv2;obtain ⟨p1',hp1',ho1⟩:=hH.obj 101 _ rfl
 rw [hp1] at hp1';cases hp1'
 obtain ⟨p3',hp3',ho3⟩:=hH.obj 103 _ rfl
 rw [hp3] at hp3';cases hp3'
 by_cases hm:v.length=0
 ·have hvn:v=[]:=List.eq_nil_of_length_eq_zero hm
  subst hvn
  obtain ⟨B0,vc,rfl⟩: ∃ B0 vc,v3= .slice B0 0 vc:=by
   rcases hc3 with ⟨_,c,h,_⟩|⟨_,A,h,_⟩
   ·exact ⟨_,_,h⟩
   ·exact ⟨_,_,h⟩
  obtain ⟨A0,c,rfl,hnc⟩: ∃ A0 c,v1= .slice A0 x.length c∧x.length≤c:=by
   rcases hc1 with ⟨_,c,h,hc,_⟩|⟨h0,A,h,_⟩
   ·exact ⟨_,_,h,hc⟩
   ·exact ⟨A,0,by rw [h,h0],by omega⟩
  refine (hW.nothing A0 B0 x.length c i vc w hi hnc).mono ?_
  rintro en w' ⟨rfl,rfl⟩
  have e1:x.take i++[]++x.drop i=x:=by simp
  rw [e1]
  exact ins_fin hs rfl rfl hv1
 ·rcases hc3 with ⟨hn3,vc,rfl,hvc,hvl⟩|⟨h0,_⟩
  case inr=>exact absurd h0 hm
  rw [hnl]
  have hsv:srcAt [(101,AObj.row E k 0 (F e x)),(103,.row E k 0 (F e v))] k (.sl 103 0 v.length)=some (v.length,F e v):=by
   show some (v.length,((F e v).drop 0).take (v.length*k))=_
   rw [List.drop_zero,List.take_of_length_le (by rw [hFl];omega)]
  have hsx:srcAt [(101,AObj.row E k 0 (F e x)),(103,.row E k 0 (F e v))] k (.sl 101 0 x.length)=some (x.length,F e x):=by
   show some (x.length,((F e x).drop 0).take (x.length*k))=_
   rw [List.drop_zero,List.take_of_length_le (by rw [hFl];omega)]
  by_cases hin:i=x.length
  ·have e1:x.take i++v++x.drop i=x++v:=by rw [hin];simp
   rw [e1]
   obtain ⟨r,w',β',hrun,hs',hr⟩:=append_core (ty:=S) hs ht htd he hk (by rw [hzs]) (by rw [hB];exact hB0) hv1 rfl (by rw [hFl];omega) (Nat.zero_le _) (hs.src hv3 hsv (hFl v)) (hFl v) (by rw [hB];exact hbytes)
   have hrow:((F e x).drop 0).take (x.length*k)++F e v=F e (x++v):=by
    rw [List.drop_zero,List.take_of_length_le (by rw [hFl];omega),F_append]
   rw [hrow] at hs'
   obtain ⟨A0,c,rfl,hnc,hsp⟩: ∃ A0 c,v1= .slice A0 x.length c∧x.length≤c∧ ∀ a,A0=some a→a.spot=none∨c=x.length:=by
    rcases hc1 with ⟨_,c,h,hc,_⟩|⟨h0,A,h,_⟩
    ·exact ⟨_,_,h,hc,fun a ha=>by cases ha;exact .inl rfl⟩
    ·exact ⟨A,0,by rw [h,h0],by omega,fun a ha=> .inr h0.symm⟩
   obtain ⟨A3,cap3,vs,e3,_⟩:=hs.src hv3 hsv (hFl v)
   rw [e3] at hrun ⊢
   rw [hin]
   refine (hW.last A0 A3 x.length c v.length cap3 w w' r (Nat.pos_of_ne_zero hm) hnc hsp (fun ty=>hrun)).mono ?_
   rintro en w2 ⟨rfl,rfl⟩
   exact ins_fin hs' rfl rfl hr
  ·rcases hc1 with ⟨hn1,c,rfl,hc,hl1⟩|⟨h0,_⟩
   case inr=>exact absurd h0 (by omega)
   obtain ⟨hpk1,_,hr1⟩:=ho1;obtain ⟨cv,fr,hcv,hlim,h5,h6,h7⟩:=hr1 hn1;obtain ⟨hpk3,_,hr3⟩:=ho3;obtain ⟨cv3,fr3,hcv3,hlim3,g5,g6,g7⟩:=hr3 hn3;obtain ⟨A1,cap1,cs,e1,_,hcl,hcs,hc1,hcr⟩:=hs.src hv1 hsx (hFl x)
   cases e1
   obtain ⟨A3,cap3,vs,e3,_,hvl',hvs,hvo,hvr⟩:=hs.src hv3 hsv (hFl v)
   cases e3
   have hcs': ∀ (j:Nat) (u:Value),cs[j]? =some u→w.cell? ⟨p1.blk,p1.st+0+j,none⟩=some u:=fun j u hj=>by
    have:=hcs _ rfl j u hj
    rwa [a_add] at this
   have hvs': ∀ (j:Nat) (u:Value),vs[j]? =some u→w.cell? ⟨p3.blk,p3.st+0+j,none⟩=some u:=fun j u hj=>by
    have:=hvs _ rfl j u hj
    rwa [a_add] at this
   have hm0:0<v.length:=Nat.pos_of_ne_zero hm
   have hlt:i<x.length:=by omega
   -- products
   have en:(x.length+v.length)*k=x.length*k+v.length*k:=Nat.add_mul _ _ _
   have ei':(i+v.length)*k=i*k+v.length*k:=Nat.add_mul _ _ _
   have hik:i*k+k≤x.length*k:=by
    have:=Nat.mul_le_mul_right k hlt
    rwa [Nat.succ_mul] at this
   have hmk:0<v.length*k:=Nat.mul_pos hm0 k0
   have hck:x.length*k≤c*k:=Nat.mul_le_mul_right _ hc
   rw [hpk1] at hl1
   rw [hpk3] at hvl
   have hvck:v.length*k≤vc*k:=Nat.mul_le_mul_right _ hvc
   have hnew:F e (x.take i++v++x.drop i)=(F e x).take (i*k)++F e v++(F e x).drop (i*k):=by
    rw [F_append,F_append,F_drop hel,F_takeN hel]
   have hnewl:(F e (x.take i++v++x.drop i)).length=x.length*k+v.length*k:=by rw [hFl,hnl,en]
   -- what the new list's cells are
   have hget: ∀ (j:Nat) (z:AV),(F e (x.take i++v++x.drop i))[j]? =some z→ ∃ u,CRel (off F0 β) w z u∧u.oneCell'=true∧
    ((j<i*k∧cs[j]? =some u)∨(i*k≤j∧j<i*k+v.length*k∧vs[j-i*k]? =some u)∨(i*k+v.length*k≤j∧(cs.drop (i*k))[j-(i*k+v.length*k)]? =some u)):=by
    intro j z hz
    have hjl:=(List.getElem?_eq_some_iff.1 hz).1
    rw [hnewl] at hjl
    rw [hnew] at hz
    have htl:((F e x).take (i*k)).length=i*k:=by rw [List.length_take,hFl];omega
    by_cases hj1:j<i*k
    ·rw [List.append_assoc,List.getElem?_append_left (by omega),List.getElem?_take_of_lt hj1] at hz
     obtain ⟨u,hu,hc⟩:=hcr j z hz;exact ⟨u,hc,hc1 u (List.mem_of_getElem? hu),.inl ⟨hj1,hu⟩⟩
    ·by_cases hj2:j<i*k+v.length*k
     ·rw [List.getElem?_append_left (by rw [List.length_append,htl,hFl];omega),List.getElem?_append_right (by omega),htl] at hz
      obtain ⟨u,hu,hc⟩:=hvr _ z hz;exact ⟨u,hc,hvo u (List.mem_of_getElem? hu),.inr (.inl ⟨by omega,hj2,hu⟩)⟩
     ·rw [List.getElem?_append_right (by rw [List.length_append,htl,hFl];omega),List.length_append,htl,hFl,List.getElem?_drop] at hz
      obtain ⟨u,hu,hc⟩:=hcr _ z hz;exact ⟨u,hc,hc1 u (List.mem_of_getElem? hu),.inr (.inr ⟨by omega,by rw [List.getElem?_drop];exact hu⟩)⟩
   have hO: ∀ {p2:Place},(p2.nil=false→(p1.nil=false∧p2.blk=p1.blk)∨w.heap.size≤p2.blk)→ ∀ k',off F0 (upd β 101 p2) k'→off F0 β k'∨w.heap.size≤k':=by
    rintro p2 hblk k' (hk'|⟨j,q,hq,hqn,rfl⟩)
    ·exact .inl (.inl hk')
    ·rcases Qu hq with ⟨rfl,rfl⟩|⟨_,hq⟩
     ·rcases hblk hqn with ⟨h1,h2⟩|h
      ·exact .inl (.inr ⟨101,p1,hp1,h1,h2.symm⟩)
      ·exact .inr h
     ·exact .inl (.inr ⟨j,q,hq,hqn,rfl⟩)
   have hb1:p1.blk<w.heap.size:=hH.blk_lt hp1 hn1
   have hb3:p3.blk<w.heap.size:=hH.blk_lt hp3 hn3
   have hne:p3.blk≠p1.blk:=fun h=>absurd (hH.inj 103 101 p3 p1 hp3 hp1 hn3 hn1 h) (by decide)
   by_cases hroom:x.length+v.length≤c
   ·have hrk:(x.length+v.length)*k≤c*k:=Nat.mul_le_mul_right _ hroom
    rw [en] at hrk
    have hfz: ∀ j,j<cv.size→p1.st+0≤j→w.frozen? ⟨p1.blk,j,none⟩=false:=fun j hj hst=>by
     have:=h7 j hj
     obtain ⟨lo,hi⟩:=fr
     simp only [World.frozen?,hcv.1,Bool.and_eq_false_iff,decide_eq_false_iff_not]
     by_cases q:lo≤j
     ·by_cases q2:j<hi
      ·have:=this q q2;omega
      ·exact .inr q2
     ·exact .inl q
    have hfz3:w.frozen? ⟨p3.blk,p3.st+0,none⟩=false:=by
     have:=g7 (p3.st+0) (by rw [hFl] at g5;omega)
     obtain ⟨lo,hi⟩:=fr3
     simp only [World.frozen?,hcv3.1,Bool.and_eq_false_iff,decide_eq_false_iff_not]
     by_cases q:lo≤p3.st+0
     ·by_cases q2:p3.st+0<hi
      ·have:=this q q2;omega
      ·exact .inr q2
     ·exact .inl q
    have hfe3:w.frozen? ⟨p3.blk,cv3.size,none⟩=false:=by
     have:=hcv3.2 hview
     obtain ⟨lo,hi⟩:=fr3
     simp only [World.frozen?,hcv3.1,Bool.and_eq_false_iff,decide_eq_false_iff_not]
     exact .inr (by show ¬ cv3.size<hi;have:hi≤cv3.size:=this;omega)
    refine (hW.shift p1.blk (p1.st+0) x.length c i p3.blk (p3.st+0) v.length vc cs vs w hlt hm0 hroom hbytes hne hcl hvl' hcs' (fun j hj=> ?_) (fun j hj=> ?_) hvs' hc1 hvo E E cv3.size cv.size (by simp [World.shape?,hcv3.1]) (by simp [World.shape?,hcv.1]) (by omega) hfz3 hfe3).mono ?_
    ·rw [Zi hcv]
     have:p1.st+0+j<cv.size:=by omega
     rw [Array.getElem?_eq_getElem this];rfl
    ·exact hfz _ (by omega) (by omega)
    rintro en w' ⟨rfl,rfl⟩
    rw [hnl] at*
    have k1:=But.setCells p1.blk (cs.drop (i*k)) (p1.st+0+(i+v.length)*k) w.drew
    have k2:=But.setCells p1.blk vs (p1.st+0+i*k) (w.drew.setCells p1.blk (p1.st+0+(i+v.length)*k) (cs.drop (i*k)))
    generalize hw':(w.drew.setCells p1.blk (p1.st+0+(i+v.length)*k) (cs.drop (i*k))).setCells p1.blk (p1.st+0+i*k) vs=w' at*
    let p2:Place:=⟨p1.blk,p1.st+0,p1.lim,k,false⟩
    have hblk:p2.nil=false→(p1.nil=false∧p2.blk=p1.blk)∨w.heap.size≤p2.blk:=fun _=> .inl ⟨hn1,rfl⟩
    have hsz:w.heap.size≤w'.heap.size:=Nat.le_trans k1.size k2.size
    have hbut:But w w' (fun k=>p1.nil=false∧k=p1.blk):=⟨k2.os.trans k1.os,⟨k2.tape.1.trans k1.tape.1,Nat.le_trans (Nat.le_succ w.drawn) (Nat.le_trans k1.tape.2 k2.tape.2)⟩,k2.output.trans k1.output,hsz,
     fun k' hk' hno=>(k2.block k' (Nat.lt_of_lt_of_le hk' k1.size) (fun e=>hno ⟨hn1,e⟩)).trans (k1.block k' hk' (fun e=>hno ⟨hn1,e⟩))⟩
    have hw: ∀ k',k'<w.heap.size→ ¬ off F0 β k'→w'.heap[k']? =w.heap[k']? :=fun k' hk' hno=>hbut.block k' hk' (fun e=>hno (.inr ⟨101,p1,hp1,hn1,e.2.symm⟩))
    have hdl:(cs.drop (i*k)).length=x.length*k-i*k:=by rw [List.length_drop,hcl]
    have hCv:CellsAt w' p1.blk E (wr (wr cv (p1.st+0+(i+v.length)*k) (cs.drop (i*k))) (p1.st+0+i*k) vs) fr:=by
     rw [←hw']
     exact zaa _ _ (zaa _ _ (w:=w.drew) hcv)
    have hs':=hs.replace (w':=w') (p':=p2) hp1 hblk hbut (o:= .row E k 0 (F e (x.take i++v++x.drop i))) (by
     refine ⟨rfl,(fun h=>by cases h),fun _=>⟨_,fr,hCv,by rw [qS,qS];exact hlim,by rw [hnewl,qS,qS];show p1.st+0+_≤_;omega,fun j z hz=> ?_,fun o' ho' h1 h2=>by rw [qS,qS] at ho';exact h7 o' ho' h1 h2⟩⟩;obtain ⟨u,hc,ho,hcase⟩:=hget j z hz;refine ⟨u,?_,hc.mono hsz (hO hblk) hw,ho⟩
     show (wr (wr cv _ _) _ _)[p1.st+0+j]? =some u
     rw [wr_get _ _ _ _ (by rw [qS,hvl'];omega),wr_get _ _ _ _ (by rw [hdl,ei'];omega),hvl',hdl,ei']
     rcases hcase with ⟨h,hu⟩|⟨h1,h2,hu⟩|⟨h1,hu⟩
     ·rw [if_neg (by omega),if_neg (by omega)]
      have:=hcs' j u hu
      rwa [Zi hcv] at this
     ·rw [if_pos (by omega),show p1.st+0+j-(p1.st+0+i*k)=j-i*k by omega]
      exact hu
     ·have:=(List.getElem?_eq_some_iff.1 hu).1
      rw [hdl] at this
      rw [if_neg (by omega),if_pos (by omega),show p1.st+0+j-(p1.st+0+(i*k+v.length*k))=j-(i*k+v.length*k) by omega]
      exact hu)
    exact ins_fin hs' rfl rfl (.sl (p:=p2) (ZD _ _ _) rfl hroom (by show p1.st+0+0+c*k≤p1.lim;omega))
   ·have hG:x.length+v.length≤grownCap w (x.length+v.length) c E:=Nat.le_add_right _ _
    refine (hW.grow p1.blk (p1.st+0) x.length c i p3.blk (p3.st+0) v.length vc cs vs w hlt hm0 hc (by omega) hbytes hcl hvl' hcs' hvs' hc1 hvo).mono ?_
    rintro en w' ⟨rfl,rfl⟩
    rw [hnl] at*
    generalize grownCap w (x.length+v.length) c E=G at hG
    generalize hROW:(cs.take (i*k)).toArray++Builtin.zeroCells Z.cells (x.length+v.length-i)++Builtin.zeroCells Z.cells (G-(x.length+v.length))=ROW
    have hZ:Z.cells.size=k:=by rw [←hzz];exact hzs
    have hGk:(x.length+v.length)*k≤G*k:=Nat.mul_le_mul_right _ hG
    have hsR:ROW.size=G*k:=by
     rw [←hROW]
     simp only [Array.size_append,List.size_toArray,List.length_take,hcl,size_zeroCells,hZ,Nat.sub_mul]
     rw [en] at hGk ⊢
     omega
    rw [en] at hGk
    let w1:=w.alloc (.cells ROW E)
    have k1:=But.setCells w.heap.size vs (i*k) w1.drew
    have k2:=But.setCells w.heap.size (cs.drop (i*k)) ((i+v.length)*k) ((w1.drew.setCells w.heap.size (i*k) vs).drew)
    have hcv1:CellsAt w1 w.heap.size E ROW (0,0):=⟨qJ w _,fun _=>Nat.zero_le _⟩
    have hCv:CellsAt (((w1.drew.setCells w.heap.size (i*k) vs).drew).setCells w.heap.size ((i+v.length)*k) (cs.drop (i*k))) w.heap.size E (wr (wr ROW (i*k) vs) ((i+v.length)*k) (cs.drop (i*k))) (0,0):=
     zaa _ _ (w:=(w1.drew.setCells w.heap.size (i*k) vs).drew) (zaa _ _ (w:=w1.drew) hcv1)
    have hs1:w.heap.size≤w1.heap.size:=by show _≤(w.heap.push _).size;simp
    generalize hw':((w1.drew.setCells w.heap.size (i*k) vs).drew).setCells w.heap.size ((i+v.length)*k) (cs.drop (i*k))=w' at*
    let p2:Place:=⟨w.heap.size,0,ROW.size,k,false⟩
    have hblk:p2.nil=false→(p1.nil=false∧p2.blk=p1.blk)∨w.heap.size≤p2.blk:=fun _=> .inr (Nat.le_refl _)
    have hsz:w.heap.size≤w'.heap.size:=Nat.le_trans hs1 (Nat.le_trans k1.size k2.size)
    have hbl: ∀ k',k'<w.heap.size→w'.heap[k']? =w.heap[k']? :=fun k' hk'=>
     (k2.block k' (Nat.lt_of_lt_of_le hk' (Nat.le_trans hs1 k1.size)) (Nat.ne_of_lt hk')).trans ((k1.block k' (Nat.lt_of_lt_of_le hk' hs1) (Nat.ne_of_lt hk')).trans (RowKit.Below.heap_alloc _ _ _ hk'))
    have hbut:But w w' (fun k=>p1.nil=false∧k=p1.blk):=⟨k2.os.trans k1.os,⟨k2.tape.1.trans k1.tape.1,Nat.le_trans (Nat.le_succ w.drawn) (Nat.le_trans k1.tape.2 (Nat.le_trans (Nat.le_succ _) k2.tape.2))⟩,k2.output.trans k1.output,hsz,fun k' hk' _=>hbl k' hk'⟩
    have hw: ∀ k',k'<w.heap.size→ ¬ off F0 β k'→w'.heap[k']? =w.heap[k']? :=fun k' hk' _=>hbl k' hk'
    have hdl:(cs.drop (i*k)).length=x.length*k-i*k:=by rw [List.length_drop,hcl]
    have hs':=hs.replace (w':=w') (p':=p2) hp1 hblk hbut (o:= .row E k 0 (F e (x.take i++v++x.drop i))) (by
     refine ⟨rfl,(fun h=>by cases h),fun _=>⟨_,(0,0),hCv,by rw [qS,qS],by rw [hnewl,qS,qS,hsR];show 0+_≤_;omega,fun j z hz=> ?_,fun o' ho' h1 h2=>absurd h2 (Nat.not_lt_zero _)⟩⟩;obtain ⟨u,hc,ho,hcase⟩:=hget j z hz;refine ⟨u,?_,hc.mono hsz (hO hblk) hw,ho⟩
     show (wr (wr ROW _ _) _ _)[0+j]? =some u
     rw [Nat.zero_add,wr_get _ _ _ _ (by rw [qS,hdl,hsR,ei'];omega),wr_get _ _ _ _ (by rw [hvl',hsR];omega),hvl',hdl,ei']
     rcases hcase with ⟨h,hu⟩|⟨h1,h2,hu⟩|⟨h1,hu⟩
     ·rw [if_neg (by omega),if_neg (by omega),←hROW,Array.getElem?_append_left (by simp only [Array.size_append,List.size_toArray,List.length_take,hcl,size_zeroCells,hZ];omega),Array.getElem?_append_left (by simp only [List.size_toArray,List.length_take,hcl];omega)]
      simp only [List.getElem?_toArray]
      rw [List.getElem?_take_of_lt h]
      exact hu
     ·rw [if_neg (by omega),if_pos (by omega)]
      exact hu
     ·have:=(List.getElem?_eq_some_iff.1 hu).1
      rw [hdl] at this
      rw [if_pos (by omega)]
      exact hu)
    exact ins_fin hs' rfl rfl (.sl (p:=p2) (ZD _ _ _) rfl hG (by show 0+0+G*k≤ROW.size;omega))
end Go.Abs
namespace W
variable {α β σ ρ τ:Type}
def Le (x y:Option α):Prop:= ∀ r,x=some r→y=some r
theorem Le.refl (x:Option α):Le x x:=fun _ h=>h
theorem Le.bind {x y:Option α}{k k':α→Option β}(h:Le x y)(hk: ∀ v,Le (k v) (k' v)):Le (x.bind k) (y.bind k'):=fun r hr=>by
 cases x with
 |none=>cases hr
 |some v=>rw [h v rfl];exact hk v r hr
theorem Le.bif (c:Bool){x y x' y':Option α}(h:Le x x')(h':Le y y'):Le (bif c then x else y) (bif c then x' else y'):=by
 cases c
 ·exact h'
 ·exact h
theorem Le.sum {f f':α→Option τ}{g g':β→Option τ}(h: ∀ a,Le (f a) (f' a))(h': ∀ b,Le (g b) (g' b)): ∀ v,Le (Sum.elim f g v) (Sum.elim f' g' v)
 | .inl a=>h a
 | .inr b=>h' b
theorem iterN_le {f g:σ→Option (σ⊕ρ)}(h: ∀ s,Le (f s) (g s)): ∀ (n:Nat) (s:σ) (q:ρ),iterN f n s=some q→iterN g n s=some q
 |0,s,q,hq=>by cases hq
 |n+1,s,q,hq=>by
  simp only [iterN] at hq ⊢
  cases hf:f s with
  |none=>rw [hf] at hq;cases hq
  |some t=>
   rw [hf] at hq
   rw [h s t hf]
   cases t with
   |inl s'=>exact iterN_le h n s' q hq
   |inr q'=>exact hq
theorem Le.iter {f g:σ→Option (σ⊕ρ)}(h: ∀ s,Le (f s) (g s))(n:Nat)(s:σ):Le (iterN f n s) (W.iter g s):=fun q hq=>iter_of (iterN_le h n s q hq)
end W
namespace Go.Abs
open Go Go.ChangeShapes Go.WideShapes Go.ChangeAt Go.RowKit
variable [GTab]
def CRows (w:World)(xs:List AV)(cs:List Value):Prop:=xs.length=cs.length∧ ∀ (i:Nat) (x:AV),xs[i]? =some x→ ∃ v,cs[i]? =some v∧CRel (fun _=>False) w x v∧v.oneCell'=true
theorem CRows.one {w:World}{x:AV}{v:Value}(h:CRel (fun _=>False) w x v)(h1:v.oneCell'=true):CRows w [x] [v]:=
 ⟨rfl,fun i y hy=>by
  cases i with
  |zero=>simp at hy;subst hy;exact ⟨v,rfl,h,h1⟩
  |succ i=>simp at hy⟩
theorem CRows.append {w:World}{ys zs:List AV}{cs ds:List Value}(h:CRows w ys cs)(k:CRows w zs ds):CRows w (ys++zs) (cs++ds):=
 ⟨by simp [h.1,k.1],fun i y hy=>by
  by_cases hi:i<ys.length
  ·rw [List.getElem?_append_left hi] at hy
   rw [List.getElem?_append_left (by rw [←h.1];exact hi)]
   exact h.2 i y hy
  ·rw [List.getElem?_append_right (by omega)] at hy
   rw [List.getElem?_append_right (by rw [←h.1];omega),←h.1]
   exact k.2 _ y hy⟩
structure Rd (P:Program) (t:TypeId) {α:Type} (enc:α→List AV) (ok:α→Prop):Prop where
 size: ∀ a,(enc a).length=P.cellsOf t
 read: ∀ {H:Type} (e:TypeId×Value→H) (w:World) (base:Nat) (sp:Nat→Bool) (held:Bool) (n:Nat) (cs:List Value) (x:DataW H×List MemPlace),DataW.trod e P w base sp held n t cs=some x→ ∃ a:α,ok a∧CRows w (enc a) cs
theorem Rd.bool {P:Program}{t:TypeId}(ht:P.underlying t=some .bool)(hs:P.cellsOf t=1):Rd P t (fun b:Bool=>[.pl (.bool b)]) (fun _=>True) where
 size:=fun _=>hs.symm
 read:=fun e w base sp held n cs x h=>by
  obtain ⟨b,rfl,_⟩:=DataW.trod_bool ht h;exact ⟨b,trivial,.one (.pl _) rfl⟩
theorem Rd.int {P:Program}{t:TypeId}{k:IntKind}(ht:P.underlying t=some (.int k))(hs:P.cellsOf t=1):Rd P t (fun n:Int=>[.pl (.int k n)]) (fun n=>(Lit.int k n).wf=true) where
 size:=fun _=>hs.symm
 read:=fun e w base sp held n cs x h=>by
  obtain ⟨b,rfl,_,hw⟩:=DataW.trod_int ht h;exact ⟨b,hw,.one (.pl _) rfl⟩
theorem Rd.byte {P:Program}{t:TypeId}(ht:P.underlying t=some (.int .u8))(hs:P.cellsOf t=1):Rd P t (fun b:UInt8=>[.pl (.int .u8 (b.toNat:Int))]) (fun _=>True) where
 size:=fun _=>hs.symm
 read:=fun e w base sp held n cs x h=>by
  obtain ⟨b,rfl,_,hw⟩:=DataW.trod_int ht h
  have hb:0≤b∧b≤255:=by simpa [Lit.wf,IntKind.min,IntKind.max,IntKind.signed,IntKind.bits] using hw
  refine ⟨UInt8.ofNat b.toNat,trivial,?_⟩
  have:((UInt8.ofNat b.toNat).toNat:Int)=b:=by
   rw [UInt8.toNat_ofNat'];omega
  rw [this]
  exact .one (.pl _) rfl
theorem Rd.string {P:Program}{t:TypeId}(ht:P.underlying t=some .string)(hs:P.cellsOf t=1):Rd P t (fun s:ByteArray=>[.pl (.string s)]) (fun s=>s.size≤maxLen) where
 size:=fun _=>hs.symm
 read:=fun e w base sp held n cs x h=>by
  obtain ⟨b,rfl,_,hw⟩:=DataW.trod_string ht h;exact ⟨b,hw,.one (.pl _) rfl⟩
theorem flat_get {α:Type}{enc:α→List AV}{k:Nat}(hk: ∀ x,(enc x).length=k): ∀ (l:List α) (j:Nat) (x:AV),(l.flatMap enc)[j]? =some x→ ∃ (i r:Nat) (hi:i<l.length),r<k∧j=i*k+r∧(enc l[i])[r]? =some x
 |[],j,x,h=>by simp at h
 |a::l,j,x,h=>by
  rw [List.flatMap_cons] at h
  by_cases hj:j<k
  ·rw [List.getElem?_append_left (by rw [hk];exact hj)] at h
   exact ⟨0,j,by simp,hj,by simp,h⟩
  ·rw [List.getElem?_append_right (by rw [hk];omega),hk] at h
   obtain ⟨i,r,hi,hr,he,hx⟩:=flat_get hk l _ x h;exact ⟨i+1,r,by simpa using hi,hr,by rw [Nat.add_mul];omega,by simpa using hx⟩
theorem Rd.slice {P:Program}{t e:TypeId}{α:Type}{enc:α→List AV}{ok:α→Prop}(hR:Rd P e enc ok)(ht:P.underlying t=some (.slice e))(hs:P.cellsOf t=1)(hpos:0<P.cellsOf e):
 Rd P t (fun l:List α=>[.vs l.length (l.flatMap enc)]) (fun l=>l.length≤maxLen∧ ∀ a∈l,ok a) where
 size:=fun _=>hs.symm
 read:=fun en w base sp held n cs x h=>by
  rcases DataW.trod_slice ht h with ⟨rfl,_⟩|⟨a,len,cap,elems,rest,m,_,rfl,_,_,hlc,hcm,hel,hall,_,_⟩
  ·exact ⟨[],⟨by simp,by simp⟩,.one .vs0 rfl⟩
  ·have hget: ∀ i:_root_.Fin len,∃ y:α,ok y∧ ∃ cs',w.cells? base (a.add (i.1*P.cellsOf e)) (P.cellsOf e)=some cs'∧CRows w (enc y) cs':=fun i=>by
    have h1:=hall i.1 i.2
    have hlt:i.1<elems.length:=by rw [hel];exact i.2
    rw [List.getElem?_eq_getElem hlt,Option.bind_eq_some_iff] at h1
    obtain ⟨cs',hc,htr⟩:=h1;obtain ⟨y,hy,hr⟩:=hR.read en w base sp held m cs' _ htr;exact ⟨y,hy,cs',hc,hr⟩
   obtain ⟨l,hl,hli⟩: ∃ l:List α,l.length=len∧ ∀ (i:Nat) (hi:i<l.length),ok l[i]∧ ∃ cs',w.cells? base (a.add (i*P.cellsOf e)) (P.cellsOf e)=some cs'∧CRows w (enc l[i]) cs':=by
    refine ⟨List.ofFn fun i:_root_.Fin len=>Classical.choose (hget i),by simp,fun i hi=> ?_⟩
    have:=Classical.choose_spec (hget ⟨i,by simpa using hi⟩)
    simpa using this
   refine ⟨l,⟨by rw [hl];omega,fun y hy=>by obtain ⟨i,hi,rfl⟩:=List.getElem_of_mem hy;exact (hli i hi).1⟩,?_⟩
   rw [hl]
   have hcell: ∀ (j:Nat) (x:AV),(l.flatMap enc)[j]? =some x→ ∃ u,w.cell? (a.add j)=some u∧CRel (fun _=>False) w x u∧u.oneCell'=true:=fun j x hx=>by
    obtain ⟨i,r,hi,hr,rfl,hx2⟩:=flat_get hR.size l j x hx;obtain ⟨_,cs',hc,hrow⟩:=hli i hi;obtain ⟨u,hu,hrel,h1⟩:=hrow.2 r x hx2;obtain ⟨_,_,hcl⟩:=World.cells?_some hc;refine ⟨u,?_,hrel,h1⟩
    rw [←hu,←hcl r hr]
    congr 1
    by_cases h0:i*P.cellsOf e=0<;>by_cases h1:r=0<;>simp [Addr.add,h0,h1,Nat.add_assoc]
   by_cases hn:len=0
   ·subst hn
    obtain rfl:l=[]:=List.eq_nil_of_length_eq_zero hl;exact .one .vs0 rfl
   ·have h0l:0<l.length:=by omega
    have hne:(enc l[0]).length=P.cellsOf e:=hR.size _
    obtain ⟨x0,hx0⟩: ∃ x,(l.flatMap enc)[0]? =some x:=by
     match hl0:l,h0l with
     |y::r,_=>
      match he:enc y,hR.size y with
      |z::_,_=>exact ⟨z,by simp [he]⟩
      |[],h=>simp at h;omega
    obtain ⟨u0,hu0,_⟩:=hcell 0 x0 hx0
    have ha0:a.add 0=a:=by simp [Addr.add]
    rw [ha0] at hu0
    obtain ⟨b,o,sp'⟩:=a
    have hsp:sp'=none:=by
     unfold World.cell? at hu0
     split at hu0
     ·cases sp' with
      |none=>rfl
      |some k=>simp at hu0
     ·cases hu0
    subst hsp
    have hb:b<w.heap.size:=World.block_lt_of_cell? w _ hu0
    let f:Nat→Value:=fun j=>(w.cell? ⟨b,o+j,none⟩).getD undef
    have hf: ∀ (j:Nat) (x:AV),(l.flatMap enc)[j]? =some x→w.cell? ⟨b,o+j,none⟩=some (f j)∧CRel (fun _=>False) w x (f j)∧(f j).oneCell'=true:=fun j x hx=>by
     obtain ⟨u,hu,hr,h1⟩:=hcell j x hx
     rw [Addr.add_lit] at hu
     have:f j=u:=by simp [f,hu]
     rw [this];exact ⟨hu,hr,h1⟩
    exact .one (.vs hlc f (fun j x hx=>⟨(hf j x hx).1,(hf j x hx).2.2⟩) (fun h=>h) hb (fun j x hx=>(hf j x hx).2.1)) rfl
structure RdF (P:Program) (fs:List Field) (off:Nat) {α:Type} (enc:α→List AV) (ok:α→Prop) (k:Nat):Prop where
 size: ∀ a,(enc a).length=k
 read: ∀ {H:Type} (e:TypeId×Value→H) (w:World) (base:Nat) (sp:Nat→Bool) (held:Bool) (n:Nat) (cs:List Value) (xs:List (DataW H×List MemPlace)),xs.length=fs.length→cs.length=off+k→
  (∀ (i:Nat) (f:Field),fs[i]? =some f→DataW.trod e P w base sp held n f.type ((cs.drop f.offset).take (P.cellsOf f.type))=xs[i]?)→ ∃ a:α,ok a∧CRows w (enc a) (cs.drop off)
theorem Rd.map {P:Program}{t:TypeId}{α β:Type}{enc:α→List AV}{ok:α→Prop}{enc':β→List AV}{ok':β→Prop}(h:Rd P t enc ok)(g:α→β)(f:β→α)(hg: ∀ a,ok a→enc' (g a)=enc a∧ok' (g a))(hf: ∀ b,enc' b=enc (f b)):Rd P t enc' ok' where
 size:=fun b=>by rw [hf,h.size]
 read:=fun e w base sp held n cs x hx=>by
  obtain ⟨a,ha,hr⟩:=h.read e w base sp held n cs x hx;exact ⟨g a,(hg a ha).2,by rw [(hg a ha).1];exact hr⟩
end Go.Abs
namespace Go.Abs
open Go Go.ChangeShapes Go.WideShapes Go.ChangeAt Go.RowKit
variable [GTab]
def kidsB (P:Program)(L:List TypeId):Bool:=L.all fun t=>match P.underlying t with
 |some (.pointer e)=>L.contains e
 |some (.slice e)=>L.contains e&&Nat.blt 0 (P.cellsOf e)
 |some (.array n e)=>L.contains e&&Nat.beq (P.cellsOf t) (n*P.cellsOf e)
 |some (.struct fs)=>fs.toList.all (fun f=>L.contains f.type)&&Nat.beq (P.cellsOf t) (fs.toList.map fun f=>P.cellsOf f.type).sum&&
  (List.range fs.toList.length).all (fun j=>match fs.toList[j]? with|some f=>Nat.beq f.offset ((fs.toList.take j).map fun f=>P.cellsOf f.type).sum|none=>true)
 |some (.map _ e)=>L.contains e
 |_=>true
theorem kids_of {P:Program}{L:List TypeId}(h:kidsB P L=true):Kids P (· ∈L) where
 pointer:=fun {t e} ht hu=>by
  have:=List.all_eq_true.1 h t ht
  simpa [hu] using this
 slice:=fun {t e} ht hu=>by
  have:=List.all_eq_true.1 h t ht
  simp [hu] at this;exact this.1
 array:=fun {t e n} ht hu=>by
  have:=List.all_eq_true.1 h t ht
  simp only [hu,Bool.and_eq_true] at this
  exact ⟨by simpa using this.1,Nat.eq_of_beq_eq_true this.2⟩
 struct:=fun {t fs} ht hu=>by
  have:=List.all_eq_true.1 h t ht
  simp only [hu,Bool.and_eq_true] at this
  obtain ⟨⟨h1,h2⟩,h3⟩:=this;refine ⟨fun f hf=>by simpa using List.all_eq_true.1 h1 f hf,Nat.eq_of_beq_eq_true h2,fun j f hf=> ?_⟩
  have hj:j<fs.toList.length:=(List.getElem?_eq_some_iff.1 hf).1
  have:=List.all_eq_true.1 h3 j (by simpa using hj)
  rw [hf] at this
  exact Nat.eq_of_beq_eq_true this
 map:=fun {t k e} ht hu=>by
  have:=List.all_eq_true.1 h t ht
  simpa [hu] using this
theorem kids_pos {P:Program}{L:List TypeId}(h:kidsB P L=true){t e:TypeId}(ht:t∈L)(hu:P.underlying t=some (.slice e)):0<P.cellsOf e:=by
 have:=List.all_eq_true.1 h t ht
 simp only [hu,Bool.and_eq_true] at this
 exact Nat.le_of_ble_eq_true this.2
section
variable {H:Type} {enc:TypeId×Value→H} {P:Program}
theorem sameAt_of_below {W W':World}(hb:Below W.heap.size W W'){p:MemPlace}(hp:p.block<W.heap.size):W.sameAt W' p:=by
 cases p with
 |cell b o=>exact cell?_same (hb.block b hp) o
 |map b=>exact hb.block b hp
theorem trodAll_below {L:List TypeId}(hk:kidsB P L=true){W W':World}(hb:Below W.heap.size W W'){sp:Nat→Bool}: ∀ {ts:List TypeId} {vs:List Value} {ds:List (DataW H)} {ps:List MemPlace},(∀ t∈ts,t∈L)→(∀ p∈ps,p.block<W.heap.size)→
 (∀ p∈ps,sp p.block=true)→DataW.TrodAll enc P W 0 (fun _=>true) true ts vs ds ps→DataW.TrodAll enc P W' 0 sp true ts vs ds ps
 |[],vs,ds,ps,hL,hlt,hsp,h=>by
  cases vs<;>cases ds<;>simp [DataW.TrodAll] at h ⊢
  exact h
 |t::ts,vs,ds,ps,hL,hlt,hsp,h=>by
  obtain ⟨v,vs',d,ds',p,q,rfl,rfl,rfl,⟨n,h1⟩,h2⟩:=trodAll_cons h;refine ⟨p,q,⟨n,?_⟩,trodAll_below hk hb (fun t ht=>hL t (by simp [ht])) (fun x hx=>hlt x (by simp [hx])) (fun x hx=>hsp x (by simp [hx])) h2,rfl⟩;exact DataW.trod_stays (kids_of hk) (fun ht hu=>kids_pos hk ht hu) (by simp) (hL t (by simp)) h1 (fun x hx=>sameAt_of_below hb (hlt x (by simp [hx]))) (fun x hx=>hsp x (by simp [hx]))
theorem law_post {f:Func}{s:ChangeSpec}{apart fresh handsOn again:Bool}{W W':World}{args:Array Value}{ds gs:List (DataW H)}{before:List MemPlace}{L:List TypeId}{tb:TypeId}
 (hW:DataW.Whole enc P f.params.toList s.vars apart W args.toList ds gs before) (hv:s.vars=[]) (hk:kidsB P L=true) (hL:f.params.toList.all (L.contains ·)=true) (hb:Below W.heap.size W W') (hr:f.resultTypes= #[tb]) (htb:P.underlying tb=some .bool)
 (hfn:s.fn H (ds++gs)={results:=[.lit (.bool true)],args:=ds}):s.post enc P f apart fresh handsOn again W args (.bool true) W':=by
 have hlt:=hW.lt
 have hLm: ∀ t∈f.params.toList,t∈L:=fun t ht=>by simpa using List.all_eq_true.1 hL t ht
 have hW0:=hW
 obtain ⟨p,q,hA,hV,rfl,hz,hn⟩:=hW
 have hgq:gs=[]∧q=[]:=by rw [hv] at hV;exact trodVars_none hV
 obtain ⟨rfl,rfl⟩:=hgq
 simp only [List.append_nil] at*
 have hargs: ∀ sp:Nat→Bool,(∀ x∈p,sp x.block=true)→DataW.TrodAll enc P W' 0 sp true f.params.toList args.toList ds p:=fun sp hsp=>trodAll_below hk hb hLm hlt hsp hA
 have hres: ∀ (b:Nat) (sp:Nat→Bool) (hd:Bool),DataW.TrodAll enc P W' b sp hd f.resultTypes.toList ((Value.bool true).resultList f.resultTypes.size) [.lit (.bool true)] []:=fun b sp hd=>by
  rw [hr];exact trodAll_mk1 (shut_bool htb true)
 have hvars: ∀ sp:Nat→Bool,DataW.TrodVars (H:=H) enc P W' sp s.vars [] []:=fun sp=>by rw [hv];rfl
 have hold: ∀ x∈p,(fun b=>decide (b<W.heap.size)) x.block=true:=fun x hx=>by simpa using hlt x hx
 refine ⟨ds,[],p,[],p,[],hW0,by simp only [List.append_nil];rw [hfn];exact hres _ _ _,by simp only [List.append_nil];rw [hfn];exact hargs _ hold,by simp only [List.append_nil];rw [hfn];exact hvars _,hb.frame _ |> World.keptBut_mono (fun x hx=>hx),fun _=> ?_⟩;refine ⟨ok_one hr rfl (okWide_bool_mk htb true),_,[],([]++p)++[],⟨[]++p,[],trodAll_append (hargs _ (fun _ _=>rfl)) (hres _ _ _),hvars _,rfl,?_,?_⟩,?_⟩
 ·intro b o hp
  have hp':MemPlace.cell b o∈p:=by simpa using hp
  have hlt':=hlt _ hp'
  have:W'.frozen? ⟨b,o,none⟩=W.frozen? ⟨b,o,none⟩:=by
   unfold World.frozen?
   rw [show W'.heap[b]? =W.heap[b]? from hb.block b hlt']
  rw [this];exact hz b o hp'
 ·intro ha;simpa using hn ha
 ·intro x hx _;simpa using hx
theorem not_agg {w:World}{r:Reach}{b:Nat}{t:TypeId}{v:Value}(h:Value.okWide P w r b t v)(hu:(match P.underlying t with|some (.struct _)|some (.array _ _)=>true|_=>false)=false):v.cells= #[v]:=by
 cases v with
 |agg xs=>
  exfalso
  unfold Value.okWide at h
  split at h
  ·rename_i he;rw [he] at hu;cases hu
  ·rename_i he;rw [he] at hu;cases hu
  ·unfold Cell.okWide at h
   split at h<;>first|(rename_i heq;cases heq;done)|skip
   unfold Cell.ok at h
   split at h<;>first|exact h|(rename_i heq;cases heq;done)
 |_=>rfl
theorem Rd.one {t:TypeId}{α:Type}{enc':α→List AV}{ok:α→Prop}(hR:Rd P t enc' ok){w:World}{r:Reach}{b base:Nat}{sp:Nat→Bool}{held:Bool}{v:Value}{d:DataW H}{ps:List MemPlace}(e1:α→AV)(he: ∀ a,enc' a=[e1 a])
 (hu:(match P.underlying t with|some (.struct _)|some (.array _ _)=>true|_=>false)=false) (hval:Value.okWide P w r b t v) (hd:DataW.Trod enc P w base sp held t v d ps): ∃ a,ok a∧CRel (fun _=>False) w (e1 a) v:=by
 obtain ⟨n,h⟩:=hd;obtain ⟨a,ha,hrow⟩:=hR.read enc w base sp held n _ _ h
 rw [not_agg hval hu,he] at hrow
 obtain ⟨u,hu',hr,_⟩:=hrow.2 0 _ rfl
 simp at hu'
 subst hu'
 exact ⟨a,ha,hr⟩
end
theorem law_calls {P:Program}{k:FuncId}{args:List AV}(hs:PSpec P k args (.pl (.bool true))){W:World}{vs:Array Value}(hl:args.length=vs.size)(ha: ∀ (i:Nat) (x:AV) (v:Value),args[i]? =some x→vs[i]? =some v→CRel (fun _=>False) W x v)
 (hg:GOk (fun _=>False) W:=by exact GOk.nil rfl rfl):Calls P k vs W (fun e W'=>e= .returned (.bool true)∧Below W.heap.size W W'):=by
 have hH:HRel (fun _=>False) noEmb [] W:=⟨(fun b o h=>by cases h),(fun b p h=>by cases h),(fun b b' p p' h=>by cases h),(fun b h=>h.elim),(fun b p h=>by cases h),hg.mono (Nat.le_refl _) (fun _ hk=> .inl (hk.elim id (fun h=>(JI _ h).elim))) (fun _ _ _=>rfl)⟩
 have hA:Args (fun _=>False) noEmb W args vs.toList:=⟨by simpa using hl,fun i x v hx hv=> .c ((ha i x v hx (by simpa using hv)).mono (Nat.le_refl _) (fun b hb=> .inl (hb.elim id (fun h=>(JI _ h).elim))) (fun _ _ _=>rfl))⟩
 have:=hs.2 (fun _=>False) noEmb W vs.toList hH hA
 simp only [Array.toArray_toList] at this
 refine this.mono ?_
 rintro e w' ⟨r,v,H',M,β',rfl,⟨rfl,rfl⟩,hH',hv,hkp,_⟩
 exact ⟨by rw [hv.pl_eq],hkp.below JI⟩
end Go.Abs
namespace Go.Abs
open Go Go.Proofs Go.Lib
variable [GTab]
theorem gok_of {P:Program}{W:World}(ht: ∀ g cs,(g,cs)∈GTab.tab→(∃ name,P.globalNamed name=some g∧W.var? P name=some cs.toArray)∧ ∀ v∈cs,v.oneCell'=true)
 (hi: ∀ g,g∈GTab.ints→ ∃ n t fr,W.heap[g]? =some (.cells #[.int .i64 n] t fr)):GOk (fun _=>False) W:=by
 have key: ∀ g cs,(g,cs)∈GTab.tab→ ∃ t fr,W.heap[g]? =some (.cells cs.toArray t fr):=fun g cs h=>by
  obtain ⟨⟨name,hg,hv⟩,_⟩:=ht g cs h;unfold World.var? at hv
  rw [hg] at hv
  simp only [Option.bind_some] at hv
  cases hw:W.heap[g]? with
  |none=>rw [hw] at hv;cases hv
  |some o=>
   rw [hw] at hv
   cases o with
   |cells c t fr=>simp only [Option.some.injEq] at hv;subst hv;exact ⟨t,fr,rfl⟩
   |_=>cases hv
 refine ⟨fun g cs h=>⟨fun h=>h,?_⟩,key,fun g cs h=>(ht g cs h).2,fun g h=> ?_⟩
 ·obtain ⟨t,fr,hh⟩:=key g cs h;exact (Array.getElem?_eq_some_iff.1 hh).1
 ·obtain ⟨n,t,fr,hh⟩:=hi g h;exact ⟨fun h=>h,(Array.getElem?_eq_some_iff.1 hh).1,n,t,fr,hh⟩
theorem var_ints {P:Program}{W:World}{name:String}{k:IntKind}{zs:List Int}{g:Nat}{t e:TypeId}{n:Nat}{d:DataW Unit}(h:VarReads P W name d)(hd:d=tabData k zs)
 (hg:P.globalNamed name=some g) (hty:(P.globals[g]?).map (·.type)=some t) (ht:P.underlying t=some (.array n e)) (he:P.underlying e=some (.int k)) (hce:P.cellsOf e=1) (hct:P.cellsOf t=n):
 W.var? P name=some (zs.map fun z=>Value.int k z).toArray:=by
 subst hd
 obtain ⟨g',t',cs,fuel,p,hg',ht',hvar,hd⟩:=h;obtain rfl:=Option.some.inj (hg.symm.trans hg');obtain rfl:=Option.some.inj (hty.symm.trans ht')
 rw [hvar,←cells_of_tab ht he hce hct hd]
theorem var_structs {P:Program}{W:World}{name:String}{k:IntKind}{rows:List (List Int)}{g:Nat}{t e:TypeId}{n m:Nat}{fs:Array Field}{d:DataW Unit}(h:VarReads P W name d)
 (hd:d= .agg (rows.map fun zs=> .agg (zs.map fun z=> .lit (.int k z))))
 (hg:P.globalNamed name=some g) (hty:(P.globals[g]?).map (·.type)=some t) (ht:P.underlying t=some (.array n e)) (hct:P.cellsOf t=n*m) (he:P.underlying e=some (.struct fs)) (hce:P.cellsOf e=m) (hm:m=fs.size)
 (hf: ∀ (i:Nat) (f:Field),fs[i]? =some f→P.underlying f.type=some (.int k)∧f.offset=i∧P.cellsOf f.type=1) (hr: ∀ zs∈rows,zs.length=m) (hn:rows.length=n):
 W.var? P name=some (rows.flatMap fun zs=>zs.map fun z=>Value.int k z).toArray:=by
 subst hd
 obtain ⟨g',t',cs,fuel,p,hg',ht',hvar,hd⟩:=h;obtain rfl:=Option.some.inj (hg.symm.trans hg');obtain rfl:=Option.some.inj (hty.symm.trans ht')
 have hlen:cs.toList.length=n*m:=by
  cases fuel with
  |zero=>simp [DataW.trod] at hd
  |succ fuel=>
   simp only [DataW.trod,ht,hce] at hd
   split at hd
   ·rename_i hl;rw [←hct];simpa using hl
   ·cases hd
 have hi: ∀ i (hi:i<n),(cs.toList.drop (i*m)).take m=(rows[i]'(by omega)).map fun z=>Value.int k z:=fun i hi=>by
  obtain ⟨fuel',d,q,hdi,hel⟩:=array_elem ht hd i hi
  rw [List.getElem?_map,List.getElem?_eq_getElem (by omega)] at hdi
  simp only [Option.map_some,Option.some.injEq] at hdi
  subst hdi
  rw [hce] at hel
  exact ints_of_struct he hf (by rw [hce,hm]) hel
 have: ∀ (rows:List (List Int)) (cs:List Value),(∀ zs∈rows,zs.length=m)→cs.length=rows.length*m→(∀ i (h:i<rows.length),(cs.drop (i*m)).take m=rows[i].map fun z=>Value.int k z)→cs=rows.flatMap fun zs=>zs.map fun z=>Value.int k z:=by
  intro rows
  induction rows with
  |nil=>intro cs _ h _;simpa using h
  |cons zs r ih=>
   intro cs hr hl h
   have h0:=h 0 (by simp)
   simp only [Nat.zero_mul,List.drop_zero,List.getElem_cons_zero] at h0
   rw [List.flatMap_cons,←h0,←ih (cs.drop m) (fun zs hz=>hr zs (by simp [hz])) (by rw [List.length_drop,hl,List.length_cons,Nat.add_mul];omega) (fun i hi=> ?_),List.take_append_drop]
   have:=h (i+1) (by simpa using hi)
   rw [List.drop_drop,Nat.add_comm m,←Nat.succ_mul]
   simpa using this
 rw [hvar,←this rows cs.toList hr (by rw [hlen,hn]) (fun i h=>hi i (by omega))]
theorem int_of_shaped {P:Program}{w:World}{g:Nat}{t:TypeId}{zero:Array Value}(h:w.ShapedOpen P)(hg:Nat.blt g P.globals.size=true)
 (h0:((begin P (fun _ _=>0) default).world.heap[g]?).bind Obj.row? =some (zero,t)) (hz:zero.size=1)
 (hb:P.buildable t=true) (hc:P.cellTypes P.depth t=some [t]) (hu:P.underlying t=some (.int .i64)): ∃ n t fr,w.heap[g]? =some (.cells #[.int .i64 n] t fr):=by
 have hg:g<P.globals.size:=by simpa [Nat.blt_eq] using hg
 obtain ⟨m,hm⟩:=cell_of_shapedOpen_int h hg h0 hz hb hc hu;obtain ⟨cs,hh,hs,_⟩:=h.1 g zero t hg h0;refine ⟨m,t,(0,0),?_⟩
 rw [hh]
 rw [hz] at hs
 simp only [World.cell?,hh] at hm
 have:cs= #[cs[0]'(by omega)]:=by
  apply Array.ext
  ·simpa using hs
  ·intro i h1 h2
   have:i=0:=by omega
   subst this;rfl
 rw [this]
 congr 3
 simpa [hs] using hm
section
variable {H:Type} {enc:TypeId×Value→H}
theorem lifted {a:Assume}{C:Checked}{os:Os}{f:FuncId}{fn:Func}{s:ChangeSpec}{conds:List PathCond}{apart fresh handsOn again:Bool}{X:World→Array Value→Prop}
 (hX: ∀ (w w':World) (args:Array Value),w.heap=w'.heap→X w args→X w' args)
 (own:ownKnob C.prog.godebug=none) (started:os.Started) (noInit:C.prog.inits.idxOf? f=none) (hfn:C.prog.funcs[f]? =some fn)
 (witness: ∃ (w:World) (tape:Tape) (i:Input),w.os=os∧(w.forCall tape i).Shaped C.prog∧i.vars=[]∧Input.okWide C.prog (w.forCall tape i) .any w.heap.size f i∧
  ((s.pre enc C.prog fn conds apart (w.forCall tape i).memory i.args∧X (w.forCall tape i).memory i.args)∧sizedMet enc C.prog fn (OpenSpec.ofChange s) apart (w.forCall tape i).memory i.args)∧a.holds C.prog (lone (Frame.enter C.prog f i.args .normal) [] (w.forCall tape i)))
 (contract: ∀ (W:World) (base:Nat) (args:Array Value) (ds gs:List (DataW H)) (before:List MemPlace),
  (∀ (j:Nat) t v,fn.params[j]? =some t→args[j]? =some v→Value.okWide C.prog W .any base t v)→DataW.Whole enc C.prog fn.params.toList s.vars apart W args.toList ds gs before→
  X W args→W.ShapedOpen C.prog→Calls C.prog f args W fun e W'=> ∃ v,e= .returned v∧s.post enc C.prog fn apart fresh handsOn again W args v W'):
 ReturnsInHanded a C os f .any (fun w args=>(s.pre enc C.prog fn conds apart w args∧X w args)∧sizedMet enc C.prog fn (OpenSpec.ofChange s) apart w args) (s.post enc C.prog fn apart fresh handsOn again):=by
 refine returnsInHanded_of_calls own started noInit witness fun w tape i _ hsh _ hok hpre hholds=> ?_;obtain ⟨_,_,_,fn',hfn',_,_,_,_,hval⟩:=hok
 cases Option.some.inj (hfn'.symm.trans hfn)
 obtain ⟨⟨⟨ds,gs,before,hw,_⟩,hx⟩,_⟩:=hpre
 exact (contract (w.forCall tape i) w.heap.size i.args ds gs before hval (DataW.Whole.of_heap (w':=w.forCall tape i) (by rfl) hw) (hX _ _ _ (by rfl) hx) hsh).mono fun e W' ⟨v,he,hp⟩=>by
  subst he
  exact ChangeSpec.post_blind hp
end
end Go.Abs
