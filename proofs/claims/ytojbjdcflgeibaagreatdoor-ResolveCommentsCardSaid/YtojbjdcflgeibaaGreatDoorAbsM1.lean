/- THE ABSTRACT STATES: values, memory, what they say of a world. Generic over the program. Conditions: none. -/
import Derived.Below
import Derived.Deep.Draws
import Derived.Deep.Quiet
import Derived.WalkKit
import Derived.KernelRfl
import Derived.Deep.LoopGhost
import Derived.Laws.Cells
import Derived.Laws.BytesArg
import Derived.Shelf.Abstract
import Derived.Laws.IdiomCopy
import Derived.Laws.AppendOwn
import Derived.Laws.OwnMore
import Derived.OrdersHeld
import Derived.Laws.StructEq
set_option linter.unusedSectionVars false
namespace Go.Abs
open Go
inductive AV where
 |pl (v:Value)
 |agg (cs:List AV)
 |tup (vs:List AV)
 |fn (f:Fn) (first cap:List AV)
 |ifc (t:TypeId) (x:AV)
 |optr (z:Bool) (cs:List AV)
 |vs (n:Nat) (cs:List AV)
 |vm (ks xs:List AV)
 |nptr (z:Bool) (b off:Nat)
 |sl (b off len:Nat)
 |mp (b:Nat)
 |it (b:Nat)
 |anyp
 |junk
 |gone
 deriving Inhabited
@[match_pattern] abbrev AV.vptr (cs:List AV):AV:= .optr false cs
@[match_pattern] abbrev AV.ptr (b off:Nat):AV:= .nptr false b off
theorem AV.parts {motive:AV→Prop}(pl: ∀ v,motive (.pl v))(agg: ∀ cs,motive (.agg cs))(tup: ∀ vs,motive (.tup vs))(fn: ∀ f a b,motive (.fn f a b))(ifc: ∀ t x,motive (.ifc t x))(vptr: ∀ cs,motive (.vptr cs))(vs: ∀ n cs,motive (.vs n cs))(vm: ∀ ks xs,motive (.vm ks xs))
 (ptr: ∀ b o,motive (.ptr b o)) (sl: ∀ b o n,motive (.sl b o n)) (mp: ∀ b,motive (.mp b)) (it: ∀ b,motive (.it b)) (anyp:motive .anyp) (junk:motive .junk) (gone:motive .gone) (onil: ∀ cs,motive (.optr true cs)) (pnil: ∀ b o,motive (.nptr true b o)) (x:AV):motive x:=by
 cases x with
 |pl v=>exact pl v
 |agg cs=>exact agg cs
 |tup cs=>exact tup cs
 |fn f a b=>exact fn f a b
 |ifc t x=>exact ifc t x
 |optr z cs=>cases z with|true=>exact onil cs|false=>exact vptr cs
 |vs n cs=>exact vs n cs
 |vm ks xs=>exact vm ks xs
 |nptr z b o=>cases z with|true=>exact pnil b o|false=>exact ptr b o
 |sl b o n=>exact sl b o n
 |mp b=>exact mp b
 |it b=>exact it b
 |anyp=>exact anyp
 |junk=>exact junk
 |gone=>exact gone
inductive AObj where
 |row (te:TypeId) (k fz:Nat) (cs:List AV)
 |box (tb:TypeId) (cs:List AV)
 |map (es:List (AV×AV))
 |siter (s:ByteArray) (pos:Nat)
 deriving Inhabited
structure Place where
 blk:Nat
 st:Nat
 lim:Nat
 k:Nat
 nil:Bool
abbrev Emb:=Nat→Option Place
def own (β:Emb)(blk:Nat):Prop:= ∃ b p,β b=some p∧p.nil=false∧p.blk=blk
def off (F:Nat→Prop)(β:Emb)(blk:Nat):Prop:=F blk∨own β blk
inductive CRel (O:Nat→Prop) (w:World):AV→Value→Prop
 |pl (v:Value):CRel O w (.pl v) v
 |agg {cs:List AV} {vs:Array Value} (hl:cs.length=vs.size) (h: ∀ (i:Nat) (x:AV) (v:Value),cs[i]? =some x→vs[i]? =some v→CRel O w x v):CRel O w (.agg cs) (.agg vs)
 |tup {cs:List AV} {vs:Array Value} (hl:cs.length=vs.size) (h: ∀ (i:Nat) (x:AV) (v:Value),cs[i]? =some x→vs[i]? =some v→CRel O w x v):CRel O w (.tup cs) (.tuple vs)
 |fn {f:Fn} {cs ds:List AV} {vs us:Array Value} (hl:cs.length=vs.size) (h: ∀ (i:Nat) (x:AV) (v:Value),cs[i]? =some x→vs[i]? =some v→CRel O w x v)
  (hl2:ds.length=us.size) (h2: ∀ (i:Nat) (x:AV) (v:Value),ds[i]? =some x→us[i]? =some v→CRel O w x v):CRel O w (.fn f cs ds) (.func f vs us)
 |ifc {t:TypeId} {x:AV} {v:Value} (h:CRel O w x v):CRel O w (.ifc t x) (.iface t v)
 |vptr {cs:List AV} {b o:Nat} (f:Nat→Value) (hc: ∀ (i:Nat) (x:AV),cs[i]? =some x→w.cell? ⟨b,o+i,none⟩=some (f i)∧(f i).oneCell'=true) (ho: ¬ O b) (hb:b<w.heap.size)
  (h: ∀ (i:Nat) (x:AV),cs[i]? =some x→CRel O w x (f i)):CRel O w (.vptr cs) (.pointer (some ⟨b,o,none⟩))
 |vnil {cs:List AV}:CRel O w (.optr true cs) (.pointer none)
 |vs0 {cs:List AV} {a:Option Addr} {c:Nat}:CRel O w (.vs 0 cs) (.slice a 0 c)
 |vs {n c:Nat} {cs:List AV} {b o:Nat} (hn:n≤c) (f:Nat→Value) (hc: ∀ (i:Nat) (x:AV),cs[i]? =some x→w.cell? ⟨b,o+i,none⟩=some (f i)∧(f i).oneCell'=true) (ho: ¬ O b) (hb:b<w.heap.size)
  (h: ∀ (i:Nat) (x:AV),cs[i]? =some x→CRel O w x (f i)):CRel O w (.vs n cs) (.slice (some ⟨b,o,none⟩) n c)
 |vm0:CRel O w (.vm [] []) (.map none)
 |vm {ks xs:List AV} {b:Nat} (ms:Array MapEntry) (ck:Nat) (hh:w.heap[b]? =some (.map ms ck)) (ho: ¬ O b) (hb:b<w.heap.size) (hlk:ks.length=ms.size) (hlx:xs.length=ms.size)
  (hbn: ∀ (i:Nat) (e:MapEntry),ms[i]? =some e→e.born<ck) (hd: ∀ (i j:Nat) (e e':MapEntry),ms[i]? =some e→ms[j]? =some e'→e.born=e'.born→i=j)
  (hk: ∀ (i:Nat) (x:AV) (e:MapEntry),ks[i]? =some x→ms[i]? =some e→CRel O w x e.key) (hx: ∀ (i:Nat) (x:AV) (e:MapEntry),xs[i]? =some x→ms[i]? =some e→CRel O w x e.val):CRel O w (.vm ks xs) (.map (some b))
inductive VRel (F:Nat→Prop) (β:Emb) (w:World):AV→Value→Prop
 |c {x:AV} {v:Value} (h:CRel (off F β) w x v):VRel F β w x v
 |agg {cs:List AV} {vs:Array Value} (hl:cs.length=vs.size) (h: ∀ (i:Nat) (x:AV) (v:Value),cs[i]? =some x→vs[i]? =some v→VRel F β w x v):VRel F β w (.agg cs) (.agg vs)
 |tup {cs:List AV} {vs:Array Value} (hl:cs.length=vs.size) (h: ∀ (i:Nat) (x:AV) (v:Value),cs[i]? =some x→vs[i]? =some v→VRel F β w x v):VRel F β w (.tup cs) (.tuple vs)
 |fn {f:Fn} {cs ds:List AV} {vs us:Array Value} (hl:cs.length=vs.size) (h: ∀ (i:Nat) (x:AV) (v:Value),cs[i]? =some x→vs[i]? =some v→VRel F β w x v)
  (hl2:ds.length=us.size) (h2: ∀ (i:Nat) (x:AV) (v:Value),ds[i]? =some x→us[i]? =some v→VRel F β w x v):VRel F β w (.fn f cs ds) (.func f vs us)
 |ifc {t:TypeId} {x:AV} {v:Value} (h:VRel F β w x v):VRel F β w (.ifc t x) (.iface t v)
 |ptr {b o:Nat} {p:Place} (hp:β b=some p) (hn:p.nil=false):VRel F β w (.ptr b o) (.pointer (some ⟨p.blk,p.st+o,none⟩))
 |pnil {b o:Nat}:VRel F β w (.nptr true b o) (.pointer none)
 |sl {b o n c:Nat} {p:Place} (hp:β b=some p) (hn:p.nil=false) (hc:n≤c) (hl:p.st+o+c*p.k≤p.lim):VRel F β w (.sl b o n) (.slice (some ⟨p.blk,p.st+o,none⟩) n c)
 |slz {b o:Nat} {a:Option Addr} {p:Place} (hp:β b=some p) (ha: ∀ ad,a=some ad→p.nil=false∧ad.block=p.blk):VRel F β w (.sl b o 0) (.slice a 0 0)
 |mp {b:Nat} {p:Place} (hp:β b=some p) (hn:p.nil=false):VRel F β w (.mp b) (.map (some p.blk))
 |it {b:Nat} {p:Place} (hp:β b=some p) (hn:p.nil=false):VRel F β w (.it b) (.pointer (some ⟨p.blk,0,none⟩))
 |anyp {a:Option Addr}:VRel F β w .anyp (.pointer a)
 |junk {v:Value} (h:v.oneCell'=true):VRel F β w .junk v
 |gone {v:Value}:VRel F β w .gone v
def get:List (Nat×AV)→Nat→Option AV
 |[],_=>none
 |(j,x)::r,i=>match Nat.beq j i with
  |true=>some x
  |false=>get r i
def hget:List (Nat×AObj)→Nat→Option AObj
 |[],_=>none
 |(j,x)::r,i=>match Nat.beq j i with
  |true=>some x
  |false=>hget r i
def hdel:List (Nat×AObj)→Nat→List (Nat×AObj)
 |[],_=>[]
 |(j,x)::r,i=>match Nat.beq j i with
  |true=>hdel r i
  |false=>(j,x)::hdel r i
def hset (H:List (Nat×AObj))(b:Nat)(o:AObj):List (Nat×AObj):=(b,o)::hdel H b
theorem Qf (j:Nat)(x:AV)(r:List (Nat×AV))(i:Nat):get ((j,x)::r) i=if j=i then some x else get r i:=by
 simp only [get]
 split
 ·rename_i h;rw [if_pos (Nat.eq_of_beq_eq_true h)]
 ·rename_i h;rw [if_neg (Nat.ne_of_beq_eq_false h)]
theorem qd (j:Nat)(x:AObj)(r:List (Nat×AObj))(i:Nat):hget ((j,x)::r) i=if j=i then some x else hget r i:=by
 simp only [hget]
 split
 ·rename_i h;rw [if_pos (Nat.eq_of_beq_eq_true h)]
 ·rename_i h;rw [if_neg (Nat.ne_of_beq_eq_false h)]
theorem hget_hdel (H:List (Nat×AObj))(b i:Nat):hget (hdel H b) i=if b=i then none else hget H i:=by
 induction H with
 |nil=>simp [hdel,hget]
 |cons q r ih=>
  obtain ⟨j,x⟩:=q
  simp only [hdel]
  split
  ·rename_i h
   have:=Nat.eq_of_beq_eq_true h
   rw [ih,qd]
   by_cases e:b=i
   ·simp [e]
   ·rw [if_neg e,if_neg e,if_neg (by omega)]
  ·rename_i h
   have:=Nat.ne_of_beq_eq_false h
   rw [qd,qd,ih]
   by_cases e:b=i
   ·rw [if_pos e,if_pos e,if_neg (by omega)]
   ·rw [if_neg e,if_neg e]
theorem hget_hset (H:List (Nat×AObj))(b:Nat)(o:AObj)(i:Nat):hget (hset H b o) i=if b=i then some o else hget H i:=by
 rw [hset,qd,hget_hdel]
 split<;>simp_all
class GTab where
 tab:List (Nat×List Value)
 ints:List Nat:=[]
 /-- May a block of such elements be marked as seen through a text? -/
 view:TypeId→Bool:=fun _=>true
variable [GTab]
structure GOk (O:Nat→Prop) (w:World):Prop where
 out: ∀ g cs,(g,cs)∈GTab.tab→ ¬ O g∧g<w.heap.size
 cell: ∀ g cs,(g,cs)∈GTab.tab→ ∃ t fr,w.heap[g]? =some (.cells cs.toArray t fr)
 one: ∀ g cs,(g,cs)∈GTab.tab→ ∀ v∈cs,v.oneCell'=true
 int: ∀ g,g∈GTab.ints→ ¬ O g∧g<w.heap.size∧ ∃ n t fr,w.heap[g]? =some (.cells #[.int .i64 n] t fr)
def CellsAt (w:World)(blk:Nat)(te:TypeId)(c:Array Value)(fr:Nat×Nat):Prop:=w.heap[blk]? =some (.cells c te fr)∧(GTab.view te=false→fr.2≤c.size)
def ORel (F:Nat→Prop)(β:Emb)(w:World)(p:Place):AObj→Prop
 | .row te k fz cs=>p.k=k∧(p.nil=true→cs=[])∧(p.nil=false→ ∃ c fr,CellsAt w p.blk te c fr∧p.lim=c.size∧p.st+cs.length≤c.size∧
  (∀ (i:Nat) (x:AV),cs[i]? =some x→ ∃ v,c[p.st+i]? =some v∧CRel (off F β) w x v∧v.oneCell'=true)∧(∀ o,o<c.size→fr.1≤o→o<fr.2→o<p.st+fz))
 | .box tb cs=>p.nil=false∧ ∃ c fr,CellsAt w p.blk tb c fr∧(p.st=0∧cs.length=c.size)∧
  (∀ (i:Nat) (x:AV),cs[i]? =some x→ ∃ v,c[p.st+i]? =some v∧VRel F β w x v∧v.oneCell'=true)∧(∀ o,o<c.size→fr.1≤o→ ¬ o<fr.2)
 | .map es=>p.nil=false∧ ∃ (ms:Array MapEntry) (clock:Nat),w.heap[p.blk]? =some (.map ms clock)∧es.length=ms.size∧
  (∀ (i:Nat) (x:AV×AV) (e:MapEntry),es[i]? =some x→ms[i]? =some e→CRel (off F β) w x.1 e.key∧CRel (off F β) w x.2 e.val∧e.born<clock)∧
  (∀ (i j:Nat) (e e':MapEntry),ms[i]? =some e→ms[j]? =some e'→e.born=e'.born→i=j)
 | .siter s pos=>p.nil=false∧w.heap[p.blk]? =some (.stringIter s pos)
structure HRel (F:Nat→Prop) (β:Emb) (H:List (Nat×AObj)) (w:World):Prop where
 obj: ∀ b o,hget H b=some o→ ∃ p,β b=some p∧ORel F β w p o
 dom: ∀ b p,β b=some p→ ∃ o,hget H b=some o
 inj: ∀ b b' p p',β b=some p→β b'=some p'→p.nil=false→p'.nil=false→p.blk=p'.blk→b=b'
 fresh: ∀ blk,F blk→blk<w.heap.size
 apart: ∀ b p,β b=some p→p.nil=false→ ¬ F p.blk
 glob:GOk (off F β) w
structure Keeps (β:Emb) (w:World) (β':Emb) (w':World):Prop where
 os:w'.os=w.os
 tape:w'.tape=w.tape∧w.drawn≤w'.drawn
 output:w'.output=w.output
 size:w.heap.size≤w'.heap.size
 block: ∀ k,k<w.heap.size→ ¬ own β k→w'.heap[k]? =w.heap[k]?
 grows: ∀ k,own β' k→own β k∨w.heap.size≤k
theorem Keeps.refl (β:Emb)(w:World):Keeps β w β w:=⟨rfl,⟨rfl,Nat.le_refl _⟩,rfl,Nat.le_refl _,fun _ _ _=>rfl,fun _ h=> .inl h⟩
theorem Keeps.trans {β1 β2 β3:Emb}{w1 w2 w3:World}(h:Keeps β1 w1 β2 w2)(k:Keeps β2 w2 β3 w3):Keeps β1 w1 β3 w3:=
 ⟨k.os.trans h.os,⟨k.tape.1.trans h.tape.1,Nat.le_trans h.tape.2 k.tape.2⟩,k.output.trans h.output,Nat.le_trans h.size k.size,
  fun i hi hn=>(k.block i (Nat.lt_of_lt_of_le hi h.size) (fun ho=>(h.grows i ho).elim hn (by omega))).trans (h.block i hi hn),
  fun i hi=>(k.grows i hi).elim (fun ho=>h.grows i ho) (fun ho=> .inr (Nat.le_trans h.size ho))⟩
theorem Keeps.below {β β':Emb}{w w':World}(h:Keeps β w β' w')(hn: ∀ k,¬ own β k):RowKit.Below w.heap.size w w':=
 ⟨h.os,h.tape.1,h.output,h.size,fun k hk=>h.block k hk (hn k)⟩
def BelowD (w w':World):Prop:=RowKit.Below w.heap.size w w'∧w.drawn≤w'.drawn
theorem BelowD.refl (w:World):BelowD w w:=⟨RowKit.Below.refl _ _,Nat.le_refl _⟩
theorem Keeps.belowD {β β':Emb}{w w':World}(h:Keeps β w β' w')(hn: ∀ k,¬ own β k):BelowD w w':=⟨h.below hn,h.tape.2⟩
theorem Keeps.of_below {β:Emb}{w w':World}(h:BelowD w w'):Keeps β w β w':=
 ⟨h.1.os,⟨h.1.tape,h.2⟩,h.1.output,h.1.size,fun k hk _=>h.1.block k hk,fun _ h=> .inl h⟩
theorem cell?_same {w w':World}{b:Nat}(h:w'.heap[b]? =w.heap[b]?)(o:Nat):w'.cell? ⟨b,o,none⟩=w.cell? ⟨b,o,none⟩:=by
 simp only [World.cell?,h]
theorem CRel.mono {O O':Nat→Prop}{w w':World}(hs:w.heap.size≤w'.heap.size)(hO: ∀ b,O' b→O b∨w.heap.size≤b)(hw: ∀ b,b<w.heap.size→ ¬ O b→w'.heap[b]? =w.heap[b]?)
 {x:AV} {v:Value} (h:CRel O w x v):CRel O' w' x v:=by
 induction h with
 |pl v=>exact .pl v
 |agg hl _ ih=>exact .agg hl ih
 |tup hl _ ih=>exact .tup hl ih
 |fn hl _ hl2 _ ih ih2=>exact .fn hl ih hl2 ih2
 |ifc _ ih=>exact .ifc ih
 |vptr f hc ho hb _ ih=>
  exact .vptr f (fun i x hx=>⟨(cell?_same (hw _ hb ho) _).trans (hc i x hx).1,(hc i x hx).2⟩) (fun h=>(hO _ h).elim ho (by omega)) (Nat.lt_of_lt_of_le hb hs) ih
 |vnil=>exact .vnil
 |vs0=>exact .vs0
 |vs hn f hc ho hb _ ih=>
  exact .vs hn f (fun i x hx=>⟨(cell?_same (hw _ hb ho) _).trans (hc i x hx).1,(hc i x hx).2⟩) (fun h=>(hO _ h).elim ho (by omega)) (Nat.lt_of_lt_of_le hb hs) ih
 |vm0=>exact .vm0
 |vm ms ck hh ho hb hlk hlx hbn hd _ _ ihk ihx=>exact .vm ms ck ((hw _ hb ho).trans hh) (fun h=>(hO _ h).elim ho (by omega)) (Nat.lt_of_lt_of_le hb hs) hlk hlx hbn hd ihk ihx
theorem GOk.mono {O O':Nat→Prop}{w w':World}(h:GOk O w)(hs:w.heap.size≤w'.heap.size)(hO: ∀ b,O' b→O b∨w.heap.size≤b)(hw: ∀ b,b<w.heap.size→ ¬ O b→w'.heap[b]? =w.heap[b]?):GOk O' w' where
 out:=fun g cs hg=>⟨fun ho=>(hO g ho).elim (h.out g cs hg).1 (fun hl=>by have:=(h.out g cs hg).2;omega),Nat.lt_of_lt_of_le (h.out g cs hg).2 hs⟩
 cell:=fun g cs hg=>let ⟨t,fr,ht⟩:=h.cell g cs hg;⟨t,fr,(hw g (h.out g cs hg).2 (h.out g cs hg).1).trans ht⟩
 one:=h.one
 int:=fun g hg=>let ⟨h1,h2,n,t,fr,h3⟩:=h.int g hg;⟨fun ho=>(hO g ho).elim h1 (fun hl=>by omega),Nat.lt_of_lt_of_le h2 hs,n,t,fr,(hw g h2 h1).trans h3⟩
theorem VRel.mono {F:Nat→Prop}{β β':Emb}{w w':World}(hβ: ∀ b p,β b=some p→β' b=some p)(hs:w.heap.size≤w'.heap.size)
 (hO: ∀ b,off F β' b→off F β b∨w.heap.size≤b) (hw: ∀ b,b<w.heap.size→ ¬ off F β b→w'.heap[b]? =w.heap[b]?) {x:AV} {v:Value} (h:VRel F β w x v):VRel F β' w' x v:=by
 induction h with
 |c h=>exact .c (h.mono hs hO hw)
 |agg hl _ ih=>exact .agg hl ih
 |tup hl _ ih=>exact .tup hl ih
 |fn hl _ hl2 _ ih ih2=>exact .fn hl ih hl2 ih2
 |ifc _ ih=>exact .ifc ih
 |ptr hp hn=>exact .ptr (hβ _ _ hp) hn
 |pnil=>exact .pnil
 |sl hp hn hc hl=>exact .sl (hβ _ _ hp) hn hc hl
 |slz hp ha=>exact .slz (hβ _ _ hp) ha
 |mp hp hn=>exact .mp (hβ _ _ hp) hn
 |it hp hn=>exact .it (hβ _ _ hp) hn
 |anyp=>exact .anyp
 |junk h=>exact .junk h
 |gone=>exact .gone
mutual
def AV.kill (b:Nat):AV→AV
 | .agg cs=> .agg (AV.killL b cs)
 | .tup cs=> .tup (AV.killL b cs)
 | .fn f cs ds=> .fn f (AV.killL b cs) (AV.killL b ds)
 | .ifc t x=> .ifc t (AV.kill b x)
 | .nptr z b' o=>match Nat.beq b' b with|true=> .junk|false=> .nptr z b' o
 | .sl b' o n=>match Nat.beq b' b with|true=> .junk|false=> .sl b' o n
 | .mp b'=>match Nat.beq b' b with|true=> .junk|false=> .mp b'
 | .it b'=>match Nat.beq b' b with|true=> .junk|false=> .it b'
 |x=>x
def AV.killL (b:Nat):List AV→List AV
 |[]=>[]
 |x::r=>AV.kill b x::AV.killL b r
end
theorem AV.killL_length (b:Nat): ∀ l,(AV.killL b l).length=l.length
 |[]=>rfl
 |x::r=>by simp [AV.killL,AV.killL_length b r]
theorem AV.killL_get (b:Nat): ∀ (l:List AV) (i:Nat) (y:AV),(AV.killL b l)[i]? =some y→ ∃ x,l[i]? =some x∧y=x.kill b
 |[],i,y,h=>by simp [AV.killL] at h
 |x::r,0,y,h=>by simp [AV.killL] at h;exact ⟨x,rfl,h.symm⟩
 |x::r,i+1,y,h=>by
  simp only [AV.killL,List.getElem?_cons_succ] at h
  simpa using AV.killL_get b r i y h
def killT (b:Nat):List (Nat×AV)→List (Nat×AV)
 |[]=>[]
 |(i,x)::r=>(i,x.kill b)::killT b r
def AObj.kill (b:Nat):AObj→AObj
 | .box tb cs=> .box tb (AV.killL b cs)
 |o=>o
def killH (b:Nat):List (Nat×AObj)→List (Nat×AObj)
 |[]=>[]
 |(i,o)::r=>match Nat.beq i b with
  |true=>killH b r
  |false=>(i,o.kill b)::killH b r
theorem get_killT (b:Nat)(T:List (Nat×AV))(i:Nat):get (killT b T) i=(get T i).map (AV.kill b):=by
 induction T with
 |nil=>rfl
 |cons q r ih=>
  obtain ⟨j,x⟩:=q
  simp only [killT,Qf,ih]
  split<;>rfl
theorem hget_killH (b:Nat)(H:List (Nat×AObj))(i:Nat):hget (killH b H) i=if b=i then none else (hget H i).map (AObj.kill b):=by
 induction H with
 |nil=>simp [killH,hget]
 |cons q r ih=>
  obtain ⟨j,x⟩:=q
  simp only [killH]
  split
  ·rename_i h
   have:=Nat.eq_of_beq_eq_true h
   rw [ih,qd]
   by_cases e:b=i
   ·simp [e]
   ·rw [if_neg e,if_neg e,if_neg (by omega)]
  ·rename_i h
   have:=Nat.ne_of_beq_eq_false h
   rw [qd,qd,ih]
   by_cases e:b=i
   ·rw [if_pos e,if_pos e,if_neg (by omega)]
   ·rw [if_neg e,if_neg e]
    split<;>rfl
theorem VRel.kill {F:Nat→Prop}{β β':Emb}{w w':World}{b0:Nat}(hβ: ∀ b p,b≠b0→β b=some p→β' b=some p)(hs:w.heap.size≤w'.heap.size)
 (hO: ∀ b,off F β' b→off F β b∨w.heap.size≤b) (hw: ∀ b,b<w.heap.size→ ¬ off F β b→w'.heap[b]? =w.heap[b]?) {x:AV} {v:Value} (h:VRel F β w x v):VRel F β' w' (x.kill b0) v:=by
 induction h with
 | @c x v h=>
  have hc: ∀ {y u},CRel (off F β) w y u→VRel F β' w' (y.kill b0) u:=by
   intro y u hy
   induction hy with
   |pl v=>exact .c (.pl v)
   |agg hl _ ih=>exact .agg (by rw [AV.killL_length];exact hl) (fun i x v hx hv=>by obtain ⟨y,hy,rfl⟩:=AV.killL_get _ _ _ _ hx;exact ih i y v hy hv)
   |tup hl _ ih=>exact .tup (by rw [AV.killL_length];exact hl) (fun i x v hx hv=>by obtain ⟨y,hy,rfl⟩:=AV.killL_get _ _ _ _ hx;exact ih i y v hy hv)
   |fn hl _ hl2 _ ih ih2=>
    exact .fn (by rw [AV.killL_length];exact hl) (fun i x v hx hv=>by obtain ⟨y,hy,rfl⟩:=AV.killL_get _ _ _ _ hx;exact ih i y v hy hv)
     (by rw [AV.killL_length];exact hl2) (fun i x v hx hv=>by obtain ⟨y,hy,rfl⟩:=AV.killL_get _ _ _ _ hx;exact ih2 i y v hy hv)
   |ifc _ ih=>exact .ifc ih
   |vptr f hc ho hb h ih=>exact .c ((CRel.vptr f hc ho hb h).mono hs hO hw)
   |vnil=>exact .c .vnil
   |vs0=>exact .c .vs0
   |vs hn f hc ho hb h ih=>exact .c ((CRel.vs hn f hc ho hb h).mono hs hO hw)
   |vm0=>exact .c .vm0
   |vm ms ck hh ho hb hlk hlx hbn hd hk hx _ _=>exact .c ((CRel.vm ms ck hh ho hb hlk hlx hbn hd hk hx).mono hs hO hw)
  exact hc h
 |agg hl _ ih=>exact .agg (by rw [AV.killL_length];exact hl) (fun i x v hx hv=>by obtain ⟨y,hy,rfl⟩:=AV.killL_get _ _ _ _ hx;exact ih i y v hy hv)
 |tup hl _ ih=>exact .tup (by rw [AV.killL_length];exact hl) (fun i x v hx hv=>by obtain ⟨y,hy,rfl⟩:=AV.killL_get _ _ _ _ hx;exact ih i y v hy hv)
 |fn hl _ hl2 _ ih ih2=>
  exact .fn (by rw [AV.killL_length];exact hl) (fun i x v hx hv=>by obtain ⟨y,hy,rfl⟩:=AV.killL_get _ _ _ _ hx;exact ih i y v hy hv)
   (by rw [AV.killL_length];exact hl2) (fun i x v hx hv=>by obtain ⟨y,hy,rfl⟩:=AV.killL_get _ _ _ _ hx;exact ih2 i y v hy hv)
 |ifc _ ih=>exact .ifc ih
 | @ptr b o p hp hn=>
  simp only [AV.kill]
  split
  ·exact .junk rfl
  ·rename_i h;exact .ptr (hβ _ _ (Nat.ne_of_beq_eq_false h) hp) hn
 | @pnil b o=>
  simp only [AV.kill]
  split
  ·exact .junk rfl
  ·exact .pnil
 | @sl b o n c p hp hn hc hl=>
  simp only [AV.kill]
  split
  ·exact .junk rfl
  ·rename_i h;exact .sl (hβ _ _ (Nat.ne_of_beq_eq_false h) hp) hn hc hl
 | @slz b o a p hp ha=>
  simp only [AV.kill]
  split
  ·exact .junk rfl
  ·rename_i h;exact .slz (hβ _ _ (Nat.ne_of_beq_eq_false h) hp) ha
 | @mp b p hp hn=>
  simp only [AV.kill]
  split
  ·exact .junk rfl
  ·rename_i h;exact .mp (hβ _ _ (Nat.ne_of_beq_eq_false h) hp) hn
 | @it b p hp hn=>
  simp only [AV.kill]
  split
  ·exact .junk rfl
  ·rename_i h;exact .it (hβ _ _ (Nat.ne_of_beq_eq_false h) hp) hn
 |anyp=>exact .anyp
 |junk h=>exact .junk h
 |gone=>exact .gone
end Go.Abs
namespace Go.Abs
inductive Zc
 |z
 |a (l:Zc)
 |d1 (l:Zc)
 |d4 (l:Zc)
 |H (l:Zc)
 |o0 (l:Zc)
 |c5 (l:Zc)
 |A (l:Zc)
 |d (l:Zc)
 |b5 (l:Zc)
 |m9 (l:Zc)
 |l5 (l:Zc)
 |h2 (l:Zc)
 |c7 (l:Zc)
 |b7 (l:Zc)
 |Y (l:Zc)
 |n2 (l:Zc)
 |l4 (l:Zc)
 |o6 (l:Zc)
 |n5 (l:Zc)
 |l2 (l:Zc)
 |B (l:Zc)
 |p2 (l:Zc)
 |c9 (l:Zc)
 |h4 (l:Zc)
 |d9 (l:Zc)
 |D (l:Zc)
 |d6 (l:Zc)
 |n3 (l:Zc)
 |m4 (l:Zc)
 |j9 (l:Zc)
 |l8 (l:Zc)
 |q7 (l:Zc)
 |q9 (l:Zc)
 |n8 (l:Zc)
 |s2 (l:Zc)
 |n6 (l:Zc)
 |N (l:Zc)
 |e0 (l:Zc)
 |W (l:Zc)
 |k9 (l:Zc)
 |o7 (l:Zc)
 |m5 (l:Zc)
 |h7 (l:Zc)
 |l1 (l:Zc)
 |S (l:Zc)
 |V (l:Zc)
 |i0 (l:Zc)
 |t7 (l:Zc)
 |l0 (l:Zc)
 |c0 (l:Zc)
 |d5 (l:Zc)
 |f3 (l:Zc)
 |q0 (l:Zc)
 |o5 (l:Zc)
 |i1 (l:Zc)
 |j0 (l:Zc)
 |u1 (l:Zc)
 |l3 (l:Zc)
 |l6 (l:Zc)
 |m1 (l:Zc)
 |m3 (l:Zc)
 |m6 (l:Zc)
 |m7 (l:Zc)
 |m8 (l:Zc)
 |n7 (l:Zc)
 |n9 (l:Zc)
 |o2 (l:Zc)
 |o3 (l:Zc)
 |o9 (l:Zc)
 |p1 (l:Zc)
 |p3 (l:Zc)
 |p4 (l:Zc)
 |p7 (l:Zc)
 |p8 (l:Zc)
 |p9 (l:Zc)
 |q1 (l:Zc)
 |q2 (l:Zc)
 |q3 (l:Zc)
 |q5 (l:Zc)
 |q8 (l:Zc)
 |r0 (l:Zc)
 |r1 (l:Zc)
 |r2 (l:Zc)
 |r4 (l:Zc)
 |r5 (l:Zc)
 |r6 (l:Zc)
 |r7 (l:Zc)
 |r8 (l:Zc)
 |r9 (l:Zc)
 |s0 (l:Zc)
 |s1 (l:Zc)
 |s3 (l:Zc)
 |s4 (l:Zc)
 |s5 (l:Zc)
 |s6 (l:Zc)
 |s7 (l:Zc)
 |s8 (l:Zc)
 |s9 (l:Zc)
 |t0 (l:Zc)
 |t1 (l:Zc)
 |t2 (l:Zc)
 |t3 (l:Zc)
 |t4 (l:Zc)
namespace Zc
abbrev e (l:Zc):=l.d1.d4
abbrev c (l:Zc):=l.o0.H
abbrev j (l:Zc):=l.e.A
abbrev b (l:Zc):=l.a.c
abbrev n (l:Zc):=l.c5.c5
abbrev l (l:Zc):=l.l5.j
abbrev o1 (l:Zc):=l.d.m9
abbrev s (l:Zc):=l.h2.d
abbrev r (l:Zc):=l.a.b5
abbrev I (l:Zc):=l.d1.Y
abbrev i (l:Zc):=l.a.b
abbrev m (l:Zc):=l.n.n
abbrev a5 (l:Zc):=l.o1.o1
abbrev h (l:Zc):=l.a.o0
abbrev e2 (l:Zc):=l.n5.d
abbrev f (l:Zc):=l.b5.r
abbrev b4 (l:Zc):=l.H.j
abbrev l9 (l:Zc):=l.n2.l
abbrev a1 (l:Zc):=l.n2.B
abbrev b3 (l:Zc):=l.a.c7
abbrev K (l:Zc):=l.d.e2
abbrev a2 (l:Zc):=l.l2.o6
abbrev u (l:Zc):=l.e.b7
abbrev t (l:Zc):=l.A.c
abbrev o (l:Zc):=l.c5.n
abbrev E (l:Zc):=l.d4.A
abbrev h1 (l:Zc):=l.d1.h4
abbrev x (l:Zc):=l.b.j
abbrev F (l:Zc):=l.a1.l
abbrev q (l:Zc):=l.a.l4
abbrev d8 (l:Zc):=l.H.I
abbrev k (l:Zc):=l.q9.q7
abbrev d2 (l:Zc):=l.a5.a5
abbrev t5 (l:Zc):=l.b5.o6
abbrev p6 (l:Zc):=l.l2.t5
abbrev o4 (l:Zc):=l.b5.p6
abbrev G (l:Zc):=l.b.b4
abbrev C (l:Zc):=l.a.h
abbrev n1 (l:Zc):=l.p2.p2
abbrev J (l:Zc):=l.o4.b5
abbrev R (l:Zc):=l.m.b3
abbrev p (l:Zc):=l.i.j
abbrev P (l:Zc):=l.d1.n6
abbrev i2 (l:Zc):=l.e.c7
abbrev v (l:Zc):=l.b7.f
abbrev k8 (l:Zc):=l.n1.a
abbrev w (l:Zc):=l.a.b7
abbrev q4 (l:Zc):=l.a.d6
abbrev a0 (l:Zc):=l.d9.s2
abbrev y (l:Zc):=l.b.I
abbrev a6 (l:Zc):=l.l9.c
abbrev a9 (l:Zc):=l.a2.n3
abbrev a4 (l:Zc):=l.c9.d8
abbrev t6 (l:Zc):=l.q4.o0
abbrev q6 (l:Zc):=l.d4.t6
abbrev e1 (l:Zc):=l.q6.h1
abbrev k0 (l:Zc):=l.m4.d
abbrev n0 (l:Zc):=l.o7.d
abbrev d7 (l:Zc):=l.e.l4
abbrev c4 (l:Zc):=l.o6.n3
abbrev m0 (l:Zc):=l.l8.d
abbrev L (l:Zc):=l.h2.D
abbrev M (l:Zc):=l.A.k8
abbrev O (l:Zc):=l.d4.c7
abbrev p5 (l:Zc):=l.s.m4
abbrev Q (l:Zc):=l.l9.t
abbrev i5 (l:Zc):=l.e0.i2
abbrev l7 (l:Zc):=l.c9.e
abbrev T (l:Zc):=l.b.H
abbrev U (l:Zc):=l.p5.s
abbrev o8 (l:Zc):=l.d9.n0
abbrev j6 (l:Zc):=l.F.c
abbrev f4 (l:Zc):=l.e.m5
abbrev X (l:Zc):=l.s.n5
abbrev Z (l:Zc):=l.j9.b5
abbrev a3 (l:Zc):=l.l.A
abbrev t8 (l:Zc):=l.t7.s
abbrev a7 (l:Zc):=l.o8.t8
abbrev a8 (l:Zc):=l.x.c
abbrev j5 (l:Zc):=l.a.a
abbrev b0 (l:Zc):=l.m9.n8
abbrev b1 (l:Zc):=l.h2.n8
abbrev b2 (l:Zc):=l.l.c
abbrev n4 (l:Zc):=l.m0.k0
abbrev b6 (l:Zc):=l.d4.l4
abbrev t9 (l:Zc):=l.u.c
abbrev b8 (l:Zc):=l.H.t9
abbrev b9 (l:Zc):=l.l.c7
abbrev c1 (l:Zc):=l.s.l8
abbrev c2 (l:Zc):=l.E.d6
abbrev c3 (l:Zc):=l.l.l4
abbrev c6 (l:Zc):=l.b7.b5
abbrev m2 (l:Zc):=l.i.H
abbrev p0 (l:Zc):=l.l7.a
abbrev c8 (l:Zc):=l.b.e
abbrev d0 (l:Zc):=l.d2.D
abbrev d3 (l:Zc):=l.e.j9
abbrev r3 (l:Zc):=l.l1.K
abbrev e3 (l:Zc):=l.e1.Y
abbrev e4 (l:Zc):=l.h.h1
abbrev e5 (l:Zc):=l.l9.A
abbrev e6 (l:Zc):=l.p0.N
abbrev e7 (l:Zc):=l.l4.n
abbrev e8 (l:Zc):=l.n4.r3
abbrev e9 (l:Zc):=l.G.c
abbrev f0 (l:Zc):=l.i.I
abbrev f1 (l:Zc):=l.R.m
abbrev f2 (l:Zc):=l.H.b4
abbrev f5 (l:Zc):=l.c7.b5
abbrev f6 (l:Zc):=l.j6.i5
abbrev u0 (l:Zc):=l.K.s2
abbrev f7 (l:Zc):=l.d2.u0
abbrev f8 (l:Zc):=l.l4.b5
abbrev f9 (l:Zc):=l.K.e2
abbrev h0 (l:Zc):=l.a.j9
abbrev h3 (l:Zc):=l.h7.k9
abbrev h5 (l:Zc):=l.a2.c
abbrev h6 (l:Zc):=l.W.J
abbrev h8 (l:Zc):=l.i0.d7
abbrev h9 (l:Zc):=l.k9.q0
abbrev i3 (l:Zc):=l.a.a9
abbrev i4 (l:Zc):=l.m.m
abbrev i6 (l:Zc):=l.h4.E
abbrev i7 (l:Zc):=l.B.a6
abbrev i8 (l:Zc):=l.u.m2
abbrev i9 (l:Zc):=l.b.P
abbrev j1 (l:Zc):=l.j5.C
abbrev j2 (l:Zc):=l.o.b3
abbrev j3 (l:Zc):=l.d1.d9
abbrev j4 (l:Zc):=l.c9.j
abbrev j7 (l:Zc):=l.b5.l0
abbrev j8 (l:Zc):=l.q.o
abbrev k1 (l:Zc):=l.u1.o5
abbrev k2 (l:Zc):=l.a0.o1
abbrev k3 (l:Zc):=l.b4.c
abbrev k4 (l:Zc):=l.c9.I
abbrev k5 (l:Zc):=l.f4.c4
abbrev k6 (l:Zc):=l.A.p2
abbrev k7 (l:Zc):=l.b.a4
structure Rn (l:Zc) (Q P:Prop):Prop where
 u:Q→P
theorem st (f:Zc→Zc){l:Zc}{Q P P':Prop}(r:P'→P)(h:Rn l Q P'):Rn (f l) Q P:=⟨fun q=>r (h.u q)⟩
theorem en {P:Prop}:Rn z P P:=⟨id⟩
theorem g (l:Zc){Q P:Prop}(q:Q)(h:Rn l Q P:=by (repeat first|((with_reducible apply Zc.st Zc.a);intro h;refine l_move ?_;exact h)|((with_reducible apply Zc.st Zc.d1);intro h;refine f_t ?_;exact h)|((with_reducible apply Zc.st Zc.d4);intro h;refine k_nil ?_;exact h)|((with_reducible apply Zc.st Zc.H);intro h;refine k_seq ?_;exact h)|((with_reducible apply Zc.st Zc.o0);intro h;refine k_reg ?_;exact h)|((with_reducible apply Zc.st Zc.c5);intro h;refine l_off ?_;exact h)|((with_reducible apply Zc.st Zc.A);intro h;refine l_assign ?_;exact h)|((with_reducible apply Zc.st Zc.d);intro h;refine gq ?_;exact h)|((with_reducible apply Zc.st Zc.b5);intro h;refine l_on ?_;exact h)|((with_reducible apply Zc.st Zc.m9);intro h;refine n_off ?_;exact h)|((with_reducible apply Zc.st Zc.l5);intro h;refine k_retc ?_;exact h)|((with_reducible apply Zc.st Zc.h2);intro h;refine n_on ?_;exact h)|((with_reducible apply Zc.st Zc.c7);intro h;refine l_pick_true ?_;exact h)|((with_reducible apply Zc.st Zc.b7);intro h;refine l_cmp ?_;exact h)|((with_reducible apply Zc.st Zc.Y);intro h;refine k_skip ?_;exact h)|((with_reducible apply Zc.st Zc.n2);intro h;refine f_tr ?_;exact h)|((with_reducible apply Zc.st Zc.l4);intro h;refine l_pick_false ?_;exact h)|((with_reducible apply Zc.st Zc.o6);intro h;refine l_fieldAddr ?_;exact h)|((with_reducible apply Zc.st Zc.n5);intro h;refine n_move ?_;exact h)|((with_reducible apply Zc.st Zc.l2);intro h;refine l_load ?_;exact h)|((with_reducible apply Zc.st Zc.B);intro h;refine f_br ?_;exact h)|((with_reducible apply Zc.st Zc.p2);intro h;refine l_extract ?_;exact h)|((with_reducible apply Zc.st Zc.c9);intro h;refine k_block ?_;exact h)|((with_reducible apply Zc.st Zc.h4);intro h;refine f_b ?_;exact h)|((with_reducible apply Zc.st Zc.d9);intro h;refine m_nil ?_;exact h)|((with_reducible apply Zc.st Zc.D);intro h;refine ge ?_;exact h)|((with_reducible apply Zc.st Zc.d6);intro h;refine l_addw ?_;exact h)|((with_reducible apply Zc.st Zc.n3);intro h;refine l_nilCheck ?_;exact h)|((with_reducible apply Zc.st Zc.m4);intro h;refine n_fieldAddr ?_;exact h)|((with_reducible apply Zc.st Zc.j9);intro h;refine l_un ?_;exact h)|((with_reducible apply Zc.st Zc.l8);intro h;refine n_load ?_;exact h)|((with_reducible apply Zc.st Zc.q7);intro h;refine k_exit ?_;exact h)|((with_reducible apply Zc.st Zc.q9);intro h;refine f_te ?_;exact h)|((with_reducible apply Zc.st Zc.n8);intro h;refine geq ?_;exact h)|((with_reducible apply Zc.st Zc.s2);intro h;refine n_pick_true ?_;exact h)|((with_reducible apply Zc.st Zc.n6);intro h;refine f_be ?_;exact h)|((with_reducible apply Zc.st Zc.N);intro h;refine l_len ?_;exact h)|((with_reducible apply Zc.st Zc.e0);intro h;refine k_t ?_;exact h)|((with_reducible apply Zc.st Zc.W);intro h;refine l_seq ?_;exact h)|((with_reducible apply Zc.st Zc.k9);intro h;refine l_bitsU ?_;exact h)|((with_reducible apply Zc.st Zc.o7);intro h;refine n_pick_false ?_;exact h)|((with_reducible apply Zc.st Zc.m5);intro h;refine l_store_box ?_;exact h)|((with_reducible apply Zc.st Zc.h7);intro h;refine l_conv_int ?_;exact h)|((with_reducible apply Zc.st Zc.l1);intro h;refine n_nilCheck ?_;exact h)|((with_reducible apply Zc.st Zc.S);intro h;refine l_subw ?_;exact h)|((with_reducible apply Zc.st Zc.V);intro h;refine l_lens ?_;exact h)|((with_reducible apply Zc.st Zc.i0);intro h;refine k_f ?_;exact h)|((with_reducible apply Zc.st Zc.t7);intro h;refine n_sne ?_;exact h)|((with_reducible apply Zc.st Zc.l0);intro h;refine l_build ?_;exact h)|((with_reducible apply Zc.st Zc.c0);intro h;refine n_cmp ?_;exact h)|((with_reducible apply Zc.st Zc.d5);intro h;refine l_load_agg ?_;exact h)|((with_reducible apply Zc.st Zc.f3);intro h;refine l_alloc ?_;exact h)|((with_reducible apply Zc.st Zc.q0);intro h;refine l_convU ?_;exact h)|((with_reducible apply Zc.st Zc.o5);intro h;refine gs ?_;exact h)|((with_reducible apply Zc.st Zc.i1);intro h;refine l_bits ?_;exact h)|((with_reducible apply Zc.st Zc.j0);intro h;refine l_sne ?_;exact h)|((with_reducible apply Zc.st Zc.u1);intro h;refine x_move ?_;exact h)|((with_reducible apply Zc.st Zc.l3);intro h;refine l_box ?_;exact h)|((with_reducible apply Zc.st Zc.l6);intro h;refine n_bits ?_;exact h)|((with_reducible apply Zc.st Zc.m1);intro h;refine n_assign ?_;exact h)|((with_reducible apply Zc.st Zc.m3);intro h;refine n_subw ?_;exact h)|((with_reducible apply Zc.st Zc.m6);intro h;refine n_addw ?_;exact h)|((with_reducible apply Zc.st Zc.m7);intro h;refine l_mulw ?_;exact h)|((with_reducible apply Zc.st Zc.m8);intro h;refine n_len ?_;exact h)|((with_reducible apply Zc.st Zc.n7);intro h;refine n_store_box ?_;exact h)|((with_reducible apply Zc.st Zc.n9);intro h;refine n_conv_int ?_;exact h)|((with_reducible apply Zc.st Zc.o2);intro h;refine l_pnilp ?_;exact h)|((with_reducible apply Zc.st Zc.o3);intro h;refine l_strb ?_;exact h)|((with_reducible apply Zc.st Zc.o9);intro h;refine l_tounsafe ?_;exact h)|((with_reducible apply Zc.st Zc.p1);intro h;refine l_min2 ?_;exact h)|((with_reducible apply Zc.st Zc.p3);intro h;refine l_pnil ?_;exact h)|((with_reducible apply Zc.st Zc.p4);intro h;refine l_field ?_;exact h)|((with_reducible apply Zc.st Zc.p7);intro h;refine l_bstro ?_;exact h)|((with_reducible apply Zc.st Zc.p8);intro h;refine n_build ?_;exact h)|((with_reducible apply Zc.st Zc.p9);intro h;refine l_neqself ?_;exact h)|((with_reducible apply Zc.st Zc.q1);intro h;refine l_makeFunc ?_;exact h)|((with_reducible apply Zc.st Zc.q2);intro h;refine n_load_agg ?_;exact h)|((with_reducible apply Zc.st Zc.q3);intro h;refine x_fieldAddr ?_;exact h)|((with_reducible apply Zc.st Zc.q5);intro h;refine n_un ?_;exact h)|((with_reducible apply Zc.st Zc.q8);intro h;refine f_bo ?_;exact h)|((with_reducible apply Zc.st Zc.r0);intro h;refine n_capn ?_;exact h)|((with_reducible apply Zc.st Zc.r1);intro h;refine n_lenn ?_;exact h)|((with_reducible apply Zc.st Zc.r2);intro h;refine n_usd ?_;exact h)|((with_reducible apply Zc.st Zc.r4);intro h;refine l_nnil ?_;exact h)|((with_reducible apply Zc.st Zc.r5);intro h;refine l_bool ?_;exact h)|((with_reducible apply Zc.st Zc.r6);intro h;refine l_buildSlice0 ?_;exact h)|((with_reducible apply Zc.st Zc.r7);intro h;refine n_max2 ?_;exact h)|((with_reducible apply Zc.st Zc.r8);intro h;refine x_nilCheck ?_;exact h)|((with_reducible apply Zc.st Zc.r9);intro h;refine l_istr ?_;exact h)|((with_reducible apply Zc.st Zc.s0);intro h;refine l_mmake ?_;exact h)|((with_reducible apply Zc.st Zc.s1);intro h;refine n_extract ?_;exact h)|((with_reducible apply Zc.st Zc.s3);intro h;refine n_mulw ?_;exact h)|((with_reducible apply Zc.st Zc.s4);intro h;refine l_copy0 ?_;exact h)|((with_reducible apply Zc.st Zc.s5);intro h;refine n_lens ?_;exact h)|((with_reducible apply Zc.st Zc.s6);intro h;refine l_remC ?_;exact h)|((with_reducible apply Zc.st Zc.s7);intro h;refine l_makeInterface ?_;exact h)|((with_reducible apply Zc.st Zc.s8);intro h;refine l_quoC ?_;exact h)|((with_reducible apply Zc.st Zc.s9);intro h;refine fin_D ?_;exact h)|((with_reducible apply Zc.st Zc.t0);intro h;refine l_range ?_;exact h)|((with_reducible apply Zc.st Zc.t1);intro h;refine l_bstr ?_;exact h)|((with_reducible apply Zc.st Zc.t2);intro h;refine l_slt ?_;exact h)|((with_reducible apply Zc.st Zc.t3);intro h;refine l_sgt ?_;exact h)|((with_reducible apply Zc.st Zc.t4);intro h;refine n_field ?_;exact h));exact Zc.en):P:=h.u q
end Zc
abbrev z:=Zc.z
end Go.Abs
set_option linter.unusedVariables false
set_option linter.unusedSimpArgs false
namespace Go.Abs
open Go
variable [GTab]
structure TI where
 desc:TypeDesc
 size:Nat
 bytes:Nat
 zero:Value
def tget:List (Nat×TI)→Nat→Option TI
 |[],_=>none
 |(j,x)::r,i=>match Nat.beq j i with
  |true=>some x
  |false=>tget r i
structure Ctx where
 P:Program
 U:List (Nat×TI)
 hU: ∀ t i,tget U t=some i→P.underlying t=some i.desc∧ ∃ info,P.info? t=some info∧info.size=i.size∧info.bytes=i.bytes∧info.zero=some i.zero
 F:Nat→Prop
 β0:Emb
 w0:World
 N:Nat
 D:List Deferred
structure St where
 T:List (Nat×AV)
 H:List (Nat×AObj)
 M:List Nat
def mem (b:Nat):List Nat→Bool
 |[]=>false
 |x::r=>match Nat.beq x b with
  |true=>true
  |false=>mem b r
theorem mem_cons (b x:Nat)(r:List Nat):mem b (x::r)=(decide (x=b)||mem b r):=by
 simp only [mem]
 split
 ·rename_i h;simp [Nat.eq_of_beq_eq_true h]
 ·rename_i h;simp [Nat.ne_of_beq_eq_false h]
structure SatB (c:Ctx) (s:St) (β:Emb) (a:Act) (w:World):Prop where
 defers:a.defers=c.D
 size:a.tmps.size=c.N
 heap:HRel c.F β s.H w
 slot: ∀ i x,get s.T i=some x→ ∃ v,a.tmps[i]? =some v∧VRel c.F β w x v
 keeps:Keeps c.β0 c.w0 β w
 stay: ∀ b p,c.β0 b=some p→mem b s.M=false→β b=some p
def Sat (c:Ctx)(s:St)(a:Act)(w:World):Prop:= ∃ β,SatB c s β a w
def Run (c:Ctx)(Q:Exit→Act→World→Prop)(code:Code)(s:St):Prop:= ∀ a w,Sat c s a w→code.wp c.P Q a w
def RunL (c:Ctx)(ops:Array Oper)(Q:Exit→Act→World→Prop)(rest:List Oper)(s:St):Prop:= ∀ a w,Sat c s a w→wpList c.P ops Q rest a w
def Fin (c:Ctx)(Q:Exit→Act→World→Prop)(e:Exit)(s:St):Prop:= ∀ a w,Sat c s a w→Q e a w
section
variable {c:Ctx} {Q:Exit→Act→World→Prop} {s:St}
theorem Run_seq {x y:Code}(h:Run c (Exit.then (y.wp c.P Q) Q) x s):Run c Q (.seq x y) s:=fun a w hs=>wp_seq (h a w hs)
theorem Run_skip (h:Fin c Q .normal s):Run c Q .skip s:=fun a w hs=>wp_skip (h a w hs)
theorem Run_block {id:Nat}{x:Code}(h:Run c (Exit.inBlock id Q) x s):Run c Q (.block id x) s:=fun a w hs=>wp_block (h a w hs)
theorem Run_exit {id:Nat}(h:Fin c Q (.exit id) s):Run c Q (.exit id) s:=fun a w hs=>wp_exit (h a w hs)
theorem Run_ret (h:Fin c Q .ret s):Run c Q .ret s:=fun a w hs=>wp_ret (h a w hs)
theorem Run_region {id:Nat}{l:List Oper}(h:RunL c l.toArray Q l s):Run c Q (.region id l.toArray false) s:=fun a w hs=>wp_region_lit (h a w hs)
theorem RunL_nil {ops:Array Oper}(h:Fin c Q .normal s):RunL c ops Q [] s:=fun a w hs=>wpList_nil (h a w hs)
theorem Fin_block_exit {id:Nat}(h:Fin c Q .normal s):Fin c (Exit.inBlock id Q) (.exit id) s:=fun a w hs=>by
 show (if id=id then Q .normal a w else Q (.exit id) a w)
 rw [if_pos rfl]
 exact h a w hs
theorem Fin_block_on {id id':Nat}(hne:Nat.beq id' id=false)(h:Fin c Q (.exit id') s):Fin c (Exit.inBlock id Q) (.exit id') s:=fun a w hs=>by
 show (if id'=id then Q .normal a w else Q (.exit id') a w)
 rw [if_neg (Nat.ne_of_beq_eq_false hne)]
 exact h a w hs
theorem Run_loop {x:Code}{σ:Type}(S:σ→St)(I:σ→Prop)(μ:σ→Nat)(y:σ)(hI:I y)
 (round: ∀ y,I y→Run c (Exit.then (fun a w=> ∃ z,I z∧μ z<μ y∧Sat c (S z) a w) Q) x (S y)):Run c Q (.loop x) (S y):=by
 intro a w hs
 refine wp_loop_ghost (fun n a w=> ∃ y,I y∧μ y=n∧Sat c (S y) a w) (μ y) ⟨y,hI,rfl,hs⟩ ?_
 rintro n a w ⟨y,hI,rfl,hs⟩
 refine wp_mono (round y hI a w hs) ?_
 intro e a' w' hq
 cases e with
 |normal=>
  obtain ⟨z,hz,hlt,hs'⟩:=hq;exact ⟨μ z,hlt,z,hz,rfl,hs'⟩
 |exit id=>exact hq
 |goto l=>exact hq
 |ret=>exact hq
 |panic ch=>exact hq
 |outgrown=>exact hq
end
def ofVal:Value→AV
 | .agg cs=> .agg (cs.toList.map .pl)
 | .tuple vs=> .tup (vs.toList.map .pl)
 |v=> .pl v
theorem CRel.ofVal (O:Nat→Prop)(w:World)(v:Value):CRel O w (ofVal v) v:=by
 have key: ∀ (l:List Value) (i:Nat) (x:AV) (v:Value),(l.map AV.pl)[i]? =some x→l.toArray[i]? =some v→CRel O w x v:=by
  intro l i x v hx hv
  simp only [List.getElem?_map,Option.map_eq_some_iff] at hx
  obtain ⟨u,hu,rfl⟩:=hx
  simp only [List.getElem?_toArray] at hv
  rw [hu] at hv
  cases hv
  exact .pl _
 cases v with
 |agg cs=>exact .agg (by simp) (fun i x v hx hv=>key cs.toList i x v hx (by simpa using hv))
 |tuple vs=>exact .tup (by simp) (fun i x v hx hv=>key vs.toList i x v hx (by simpa using hv))
 |_=>exact .pl _
def opv (T:List (Nat×AV)):Operand→Option AV
 | .tmp t=>get T t
 | .const v=>some (ofVal v)
 | .global g=>some (.pl (.pointer (some ⟨g,0,none⟩)))
 | .func f=>some (.fn (.func f) [] [])
theorem SatB.op {c:Ctx}{s:St}{β:Emb}{a:Act}{w:World}(h:SatB c s β a w){o:Operand}{x:AV}(hx:opv s.T o=some x):VRel c.F β w x (a.eval o):=by
 cases o with
 |tmp t=>
  obtain ⟨v,hv,hr⟩:=h.slot t x hx
  have:a.eval (.tmp t)=v:=by simp [Act.eval,Array.getD_eq_getD_getElem?,hv]
  rw [this];exact hr
 |const v=>cases hx;exact .c (CRel.ofVal _ _ v)
 |global g=>cases hx;exact .c (.pl _)
 |func f=>cases hx;exact .c (.fn (by simp) (by simp) (by simp) (by simp))
theorem VRel.pl_eq {F:Nat→Prop}{β:Emb}{w:World}{u v:Value}(h:VRel F β w (.pl u) v):v=u:=by
 cases h with
 |c h=>cases h;rfl
theorem SatB.pl {c:Ctx}{s:St}{β:Emb}{a:Act}{w:World}(h:SatB c s β a w){o:Operand}{v:Value}(hx:opv s.T o=some (.pl v)):a.eval o=v:=(h.op hx).pl_eq
def putT (T:List (Nat×AV))(d:Option Tmp)(x:AV):List (Nat×AV):=
 match d with
 |some d=>(d,x)::T
 |none=>T
def dstOk (N:Nat):Option Tmp→Bool
 |some d=>Nat.blt d N
 |none=>true
theorem HRel.later {F:Nat→Prop}{β:Emb}{H:List (Nat×AObj)}{w w':World}(h:HRel F β H w)(hb:RowKit.Below w.heap.size w w'):HRel F β H w':=by
 have hO: ∀ b,off F β b→off F β b∨w.heap.size≤b:=fun _ h=> .inl h
 have hw: ∀ b,b<w.heap.size→ ¬ off F β b→w'.heap[b]? =w.heap[b]? :=fun b hb' _=>hb.block b hb'
 have key: ∀ blk o,w.heap[blk]? =some o→w'.heap[blk]? =some o:=fun blk o ho=>by
  rw [hb.block blk (Array.getElem?_eq_some_iff.1 ho).1];exact ho
 refine ⟨fun b o hg=> ?_,h.dom,h.inj,fun blk hF=>Nat.lt_of_lt_of_le (h.fresh blk hF) hb.size,h.apart,h.glob.mono hb.size hO hw⟩;obtain ⟨p,hp,hr⟩:=h.obj b o hg;refine ⟨p,hp,?_⟩
 cases o with
 |row te k fz cs=>
  obtain ⟨h1,h2,h3⟩:=hr;refine ⟨h1,h2,fun hn=> ?_⟩;obtain ⟨cv,fr,ht,h4,h5,h6,h7⟩:=h3 hn;exact ⟨cv,fr,⟨key _ _ ht.1,ht.2⟩,h4,h5,fun i x hx=>let ⟨v,hv,hc,h1c⟩:=h6 i x hx;⟨v,hv,hc.mono hb.size hO hw,h1c⟩,h7⟩
 |box tb cs=>
  obtain ⟨h1,cv,fr,ht,h5,h6,h7⟩:=hr;exact ⟨h1,cv,fr,⟨key _ _ ht.1,ht.2⟩,h5,fun i x hx=>let ⟨v,hv,hc,h1c⟩:=h6 i x hx;⟨v,hv,hc.mono (fun _ _ h=>h) hb.size hO hw,h1c⟩,h7⟩
 |map es=>
  obtain ⟨h1,ms,clock,h2,h3,h4,h5⟩:=hr;refine ⟨h1,ms,clock,key _ _ h2,h3,fun i x e hx he=> ?_,h5⟩;obtain ⟨q1,q2,q3⟩:=h4 i x e hx he;exact ⟨q1.mono hb.size hO hw,q2.mono hb.size hO hw,q3⟩
 |siter sx pos=>exact ⟨hr.1,key _ _ hr.2⟩
theorem SatB.later {c:Ctx}{s:St}{β:Emb}{a:Act}{w w':World}(h:SatB c s β a w)(hb:BelowD w w'):SatB c s β a w':=by
 refine ⟨h.defers,h.size,h.heap.later hb.1,fun i x hx=> ?_,h.keeps.trans (Keeps.of_below hb),h.stay⟩;obtain ⟨v,hv,hr⟩:=h.slot i x hx;exact ⟨v,hv,hr.mono (fun _ _ h=>h) hb.1.size (fun _ h=> .inl h) (fun b hb' _=>hb.1.block b hb')⟩
theorem SatB.put {c:Ctx}{s:St}{β:Emb}{a:Act}{w:World}(h:SatB c s β a w){d:Option Tmp}(hd:dstOk c.N d=true){x:AV}{v:Value}(hv:VRel c.F β w x v):
 SatB c ⟨putT s.T d x,s.H,s.M⟩ β (a.put d v) w:=by
 cases d with
 |none=>exact h
 |some d=>
  have hlt:d<a.tmps.size:=by rw [h.size];simpa [dstOk,Nat.blt_eq] using hd
  refine ⟨h.defers,by simp [Act.put,h.size],h.heap,fun i y hy=> ?_,h.keeps,h.stay⟩
  simp only [putT,Qf] at hy
  simp only [Act.put]
  by_cases e:d=i
  ·rw [if_pos e] at hy
   cases hy
   subst e
   exact ⟨v,by simp [hlt],hv⟩
  ·rw [if_neg e] at hy
   obtain ⟨u,hu,hr⟩:=h.slot i y hy;exact ⟨u,by rw [Array.getElem?_setIfInBounds_ne e];exact hu,hr⟩
def QOp (c:Ctx)(o:Oper)(s:St)(x:AV):Prop:=
 ∀ a w β,SatB c s β a w→ ∃ v,VRel c.F β w x v∧ ∀ w',RowKit.Below w.heap.size w w'→(execOp a.eval o).run c.P w'= .ok (.value v) w'
def QOpS (c:Ctx)(o:Oper)(s:St)(x:AV):Prop:=
 ∀ a w β,SatB c s β a w→ ∃ v,VRel c.F β w x v∧ ∀ w',(execOp a.eval o).run c.P w'= .ok (.value v) w'
theorem QOpS.later {c:Ctx}{o:Oper}{s:St}{x:AV}(h:QOpS c o s x):QOp c o s x:=fun a w β hs=>let ⟨v,hv,hr⟩:=h a w β hs;⟨v,hv,fun w' _=>hr w'⟩
section
variable {c:Ctx} {Q:Exit→Act→World→Prop} {s:St} {ops:Array Oper} {rest:List Oper} {o:Oper}
theorem Jn {o:Oper}(hg:o.guard=none)(f:Nat→Option Bool):Region.wanted o f=true:=by simp [Region.wanted,hg]
theorem qi {x:AV}(h:QOp c o s x)(hg:o.guard=none)(hd:dstOk c.N o.dst=true)(hr:RunL c ops Q rest ⟨putT s.T o.dst x,s.H,s.M⟩):RunL c ops Q (o::rest) s:=by
 rintro a w ⟨β,hs⟩
 obtain ⟨v,hv,hrun⟩:=h a w β hs;refine wpList_plain hg fun K hK=> ?_;unfold Oper.wp
 rw [hrun w (RowKit.Below.refl _ _),Oper.upon_value]
 exact hK _ _ (hr _ _ ⟨β,hs.put hd hv⟩)
theorem yielded_of {β:Emb}{a:Act}{w:World}(hs:SatB c s β a w){j d:Nat}(hj:((ops[j]?).bind (·.dst))=some d){b:Bool}(hx:get s.T d=some (.pl (.bool b))):yielded ops a.tmps j=some b:=by
 obtain ⟨v,hv,hr⟩:=hs.slot d _ hx;obtain rfl:=hr.pl_eq
 simp [yielded,hj,hv]
theorem RunL_on {j d:Nat}{b:Bool}(hg:o.guard=some (j,b))(hj:((ops[j]?).bind (·.dst))=some d)(hx:get s.T d=some (.pl (.bool b)))
 (h:RunL c ops Q ({o with guard:=none}::rest) s):RunL c ops Q (o::rest) s:=by
 rintro a w ⟨β,hs⟩
 have h1:=h a w ⟨β,hs⟩
 have hw:Region.wanted o (yielded ops a.tmps)=true:=by simp [Region.wanted,hg,yielded_of hs hj hx]
 unfold wpList at h1 ⊢
 rw [if_pos (Jn rfl _)] at h1
 rw [if_pos hw]
 exact h1
theorem RunL_split {j d:Nat}{b e:Bool}(hg:o.guard=some (j,b))(hj:((ops[j]?).bind (·.dst))=some d)(hx:get s.T d=some (.pl (.bool e)))
 (ht:e=true→RunL c ops Q (o::rest) ⟨(d,.pl (.bool true))::s.T,s.H,s.M⟩) (hf:e=false→RunL c ops Q (o::rest) ⟨(d,.pl (.bool false))::s.T,s.H,s.M⟩):RunL c ops Q (o::rest) s:=by
 rintro a w ⟨β,hs⟩
 have key: ∀ i x,get ((d,AV.pl (.bool e))::s.T) i=some x→ ∃ v,a.tmps[i]? =some v∧VRel c.F β w x v:=by
  intro i x hi
  rw [Qf] at hi
  by_cases q:d=i
  ·rw [if_pos q] at hi;cases hi;subst q;exact hs.slot _ _ hx
  ·rw [if_neg q] at hi;exact hs.slot _ _ hi
 cases e with
 |true=>exact ht rfl a w ⟨β,hs.defers,hs.size,hs.heap,key,hs.keeps,hs.stay⟩
 |false=>exact hf rfl a w ⟨β,hs.defers,hs.size,hs.heap,key,hs.keeps,hs.stay⟩
theorem Run_cond_true {x:Operand}{p q:Code}(hx:opv s.T x=some (.pl (.bool true)))(h:Run c Q p s):Run c Q (.cond x p q) s:=by
 rintro a w ⟨β,hs⟩
 exact wp_cond_true (hs.pl hx) (h a w ⟨β,hs⟩)
theorem Run_cond_false {x:Operand}{p q:Code}(hx:opv s.T x=some (.pl (.bool false)))(h:Run c Q q s):Run c Q (.cond x p q) s:=by
 rintro a w ⟨β,hs⟩
 exact wp_cond_false (hs.pl hx) (h a w ⟨β,hs⟩)
end
def Sub:List (Nat×AV)→List (Nat×AV)→Prop
 |[],_=>True
 |(i,x)::r,T=>get T i=some x∧Sub r T
theorem Sub.get {T' T:List (Nat×AV)}(h:Sub T' T){i:Nat}{x:AV}(hx:get T' i=some x):Abs.get T i=some x:=by
 induction T' with
 |nil=>cases hx
 |cons q r ih=>
  obtain ⟨j,y⟩:=q
  rw [Qf] at hx
  by_cases e:j=i
  ·rw [if_pos e] at hx;cases hx;subst e;exact h.1
  ·rw [if_neg e] at hx;exact ih h.2 hx
theorem Sat.sub {c:Ctx}{T T':List (Nat×AV)}{H:List (Nat×AObj)}{M:List Nat}{a:Act}{w:World}(h:Sat c ⟨T,H,M⟩ a w)(hT:Sub T' T):Sat c ⟨T',H,M⟩ a w:=by
 obtain ⟨β,hs⟩:=h;exact ⟨β,hs.defers,hs.size,hs.heap,fun i x hx=>hs.slot i x (hT.get hx),hs.keeps,hs.stay⟩
theorem QB {β β':Emb}(h: ∀ b p,β' b=some p→β b=some p){k:Nat}(ho:own β' k):own β k:=by
 obtain ⟨b,p,hp,hn,hk⟩:=ho;exact ⟨b,p,h b p hp,hn,hk⟩
theorem Sat.drop {c:Ctx}{T:List (Nat×AV)}{H:List (Nat×AObj)}{M:List Nat}{a:Act}{w:World}(h:Sat c ⟨T,H,M⟩ a w)(b:Nat):Sat c ⟨killT b T,killH b H,b::M⟩ a w:=by
 obtain ⟨β,hs⟩:=h
 let β':Emb:=fun i=>if b=i then none else β i
 have hβ: ∀ i p,i≠b→β i=some p→β' i=some p:=fun i p hi hp=>by show (if b=i then none else β i)=some p;rw [if_neg (Ne.symm hi)];exact hp
 have hβ': ∀ i p,β' i=some p→b≠i∧β i=some p:=fun i p hp=>by
  by_cases e:b=i
  ·simp [β',e] at hp
  ·simp only [β',if_neg e] at hp;exact ⟨e,hp⟩
 have hO: ∀ k,off c.F β' k→off c.F β k∨w.heap.size≤k:=fun k hk=> .inl (hk.imp id (QB fun i p hp=>(hβ' i p hp).2))
 have hw: ∀ k,k<w.heap.size→ ¬ off c.F β k→w.heap[k]? =w.heap[k]? :=fun _ _ _=>rfl
 refine ⟨β',hs.defers,hs.size,⟨fun i o hg=> ?_,fun i p hp=> ?_,fun i j p q hp hq=>hs.heap.inj i j p q (hβ' i p hp).2 (hβ' j q hq).2,hs.heap.fresh,fun i p hp=>hs.heap.apart i p (hβ' i p hp).2,hs.heap.glob.mono (Nat.le_refl _) hO hw⟩,fun i x hx=> ?_,?_,fun i p hp hm=> ?_⟩
 ·rw [hget_killH] at hg
  by_cases e:b=i
  ·rw [if_pos e] at hg;cases hg
  ·rw [if_neg e,Option.map_eq_some_iff] at hg
   obtain ⟨o,ho,rfl⟩:=hg;obtain ⟨p,hp,hr⟩:=hs.heap.obj i o ho;refine ⟨p,hβ i p (Ne.symm e) hp,?_⟩
   cases o with
   |row te k fz cs=>
    obtain ⟨h1,h2,h3⟩:=hr;refine ⟨h1,h2,fun hn=> ?_⟩;obtain ⟨cv,fr,h4,h5,h6,h7,h8⟩:=h3 hn;exact ⟨cv,fr,h4,h5,h6,fun i x hx=>let ⟨v,hv,hc,h1c⟩:=h7 i x hx;⟨v,hv,hc.mono (Nat.le_refl _) hO hw,h1c⟩,h8⟩
   |box tb cs=>
    obtain ⟨h1,cv,fr,h4,h5,h6,h7⟩:=hr;refine ⟨h1,cv,fr,h4,by rw [AV.killL_length];exact h5,fun i x hx=> ?_,h7⟩;obtain ⟨y,hy,rfl⟩:=AV.killL_get _ _ _ _ hx;obtain ⟨v,hv,hc,h1c⟩:=h6 i y hy;exact ⟨v,hv,hc.kill hβ (Nat.le_refl _) hO hw,h1c⟩
   |map es=>
    obtain ⟨h1,ms,clock,h2,h3,h4,h5⟩:=hr;refine ⟨h1,ms,clock,h2,h3,fun i x e hx he=> ?_,h5⟩;obtain ⟨q1,q2,q3⟩:=h4 i x e hx he;exact ⟨q1.mono (Nat.le_refl _) hO hw,q2.mono (Nat.le_refl _) hO hw,q3⟩
   |siter sx pos=>exact hr
 ·obtain ⟨o,ho⟩:=hs.heap.dom i p (hβ' i p hp).2;exact ⟨o.kill b,by rw [hget_killH,if_neg (hβ' i p hp).1,ho];rfl⟩
 ·rw [get_killT,Option.map_eq_some_iff] at hx
  obtain ⟨y,hy,rfl⟩:=hx;obtain ⟨v,hv,hr⟩:=hs.slot i y hy;exact ⟨v,hv,hr.kill hβ (Nat.le_refl _) hO hw⟩
 ·exact ⟨hs.keeps.os,hs.keeps.tape,hs.keeps.output,hs.keeps.size,hs.keeps.block,fun k hk=>hs.keeps.grows k (QB (fun i p hp=>(hβ' i p hp).2) hk)⟩
 ·rw [mem_cons,Bool.or_eq_false_iff,decide_eq_false_iff_not] at hm
  exact hβ i p (Ne.symm hm.1) (hs.stay i p hp hm.2)
end Go.Abs
set_option linter.unusedVariables false
set_option linter.unusedSimpArgs false
namespace Go.Abs
open Go
variable [GTab]
section
variable {F:Nat→Prop} {β:Emb} {w:World} {v:Value}
theorem lift {cs:List AV}{vs:Array Value}{R:AV→Value→Prop}(hl:cs.length=vs.size)(h: ∀ (i:Nat) (x:AV) (v:Value),cs[i]? =some x→vs[i]? =some v→R x v)(i:Nat)(x:AV)(hx:cs[i]? =some x): ∃ u,vs[i]? =some u∧R x u:=by
 have hi:i<cs.length:=(List.getElem?_eq_some_iff.1 hx).1
 have hv:vs[i]? =some (vs[i]'(by omega)):=by simp
 exact ⟨_,hv,h i x _ hx hv⟩
theorem VRel.agg_inv {cs:List AV}(h:VRel F β w (.agg cs) v): ∃ vs:Array Value,v= .agg vs∧cs.length=vs.size∧ ∀ (i:Nat) (x:AV),cs[i]? =some x→ ∃ u,vs[i]? =some u∧VRel F β w x u:=by
 cases h with
 |c h=>cases h with|agg hl h=>exact ⟨_,rfl,hl,lift hl fun i x v hx hv=> .c (h i x v hx hv)⟩
 |agg hl h=>exact ⟨_,rfl,hl,lift hl h⟩
theorem VRel.tup_inv {cs:List AV}(h:VRel F β w (.tup cs) v): ∃ vs:Array Value,v= .tuple vs∧cs.length=vs.size∧ ∀ (i:Nat) (x:AV),cs[i]? =some x→ ∃ u,vs[i]? =some u∧VRel F β w x u:=by
 cases h with
 |c h=>cases h with|tup hl h=>exact ⟨_,rfl,hl,lift hl fun i x v hx hv=> .c (h i x v hx hv)⟩
 |tup hl h=>exact ⟨_,rfl,hl,lift hl h⟩
theorem VRel.fn_inv {f:Fn}{cs ds:List AV}(h:VRel F β w (.fn f cs ds) v): ∃ vs us:Array Value,v= .func f vs us∧(cs.length=vs.size∧ ∀ (i:Nat) (x:AV),cs[i]? =some x→ ∃ u,vs[i]? =some u∧VRel F β w x u)∧
 (ds.length=us.size∧ ∀ (i:Nat) (x:AV),ds[i]? =some x→ ∃ u,us[i]? =some u∧VRel F β w x u):=by
 cases h with
 |c h=>cases h with|fn hl h hl2 h2=>exact ⟨_,_,rfl,⟨hl,lift hl fun i x v hx hv=> .c (h i x v hx hv)⟩,⟨hl2,lift hl2 fun i x v hx hv=> .c (h2 i x v hx hv)⟩⟩
 |fn hl h hl2 h2=>exact ⟨_,_,rfl,⟨hl,lift hl h⟩,⟨hl2,lift hl2 h2⟩⟩
theorem VRel.vptr_inv {cs:List AV}(h:VRel F β w (.vptr cs) v): ∃ b o,v= .pointer (some ⟨b,o,none⟩)∧ ¬ off F β b∧b<w.heap.size∧ ∀ (i:Nat) (x:AV),cs[i]? =some x→ ∃ u,w.cell? ⟨b,o+i,none⟩=some u∧CRel (off F β) w x u∧u.oneCell'=true:=by
 cases h with
 |c h=>cases h with|vptr f hc ho hb h=>exact ⟨_,_,rfl,ho,hb,fun i x hx=>⟨_,(hc i x hx).1,h i x hx,(hc i x hx).2⟩⟩
theorem VRel.vs_inv {n:Nat}{cs:List AV}(h:VRel F β w (.vs n cs) v): ∃ A c,v= .slice A n c∧n≤c∧(n=0∨ ∃ b o,A=some ⟨b,o,none⟩∧ ¬ off F β b∧b<w.heap.size∧
 ∀ (i:Nat) (x:AV),cs[i]? =some x→ ∃ u,w.cell? ⟨b,o+i,none⟩=some u∧CRel (off F β) w x u∧u.oneCell'=true):=by
 cases h with
 |c h=>cases h with
  |vs0=>exact ⟨_,_,rfl,Nat.zero_le _,.inl rfl⟩
  |vs hn f hc ho hb h=>exact ⟨_,_,rfl,hn,.inr ⟨_,_,rfl,ho,hb,fun i x hx=>⟨_,(hc i x hx).1,h i x hx,(hc i x hx).2⟩⟩⟩
theorem VRel.vptr_mk {cs:List AV}{b o:Nat}(ho: ¬ off F β b)(hb:b<w.heap.size)(h: ∀ (i:Nat) (x:AV),cs[i]? =some x→ ∃ u,w.cell? ⟨b,o+i,none⟩=some u∧CRel (off F β) w x u∧u.oneCell'=true):CRel (off F β) w (.vptr cs) (.pointer (some ⟨b,o,none⟩)):=by
 refine .vptr (fun i=>(w.cell? ⟨b,o+i,none⟩).getD undef) (fun i x hx=> ?_) ho hb (fun i x hx=> ?_)
 ·obtain ⟨u,hu,_,h1⟩:=h i x hx;rw [hu];exact ⟨rfl,h1⟩
 ·obtain ⟨u,hu,hr,_⟩:=h i x hx;rw [hu];exact hr
theorem VRel.vs_mk {n c:Nat}{cs:List AV}{b o:Nat}(hn:n≤c)(ho: ¬ off F β b)(hb:b<w.heap.size)(h: ∀ (i:Nat) (x:AV),cs[i]? =some x→ ∃ u,w.cell? ⟨b,o+i,none⟩=some u∧CRel (off F β) w x u∧u.oneCell'=true):CRel (off F β) w (.vs n cs) (.slice (some ⟨b,o,none⟩) n c):=by
 refine .vs hn (fun i=>(w.cell? ⟨b,o+i,none⟩).getD undef) (fun i x hx=> ?_) ho hb (fun i x hx=> ?_)
 ·obtain ⟨u,hu,_,h1⟩:=h i x hx;rw [hu];exact ⟨rfl,h1⟩
 ·obtain ⟨u,hu,hr,_⟩:=h i x hx;rw [hu];exact hr
theorem VRel.ptr_inv {b o:Nat}(h:VRel F β w (.ptr b o) v): ∃ p,β b=some p∧p.nil=false∧v= .pointer (some ⟨p.blk,p.st+o,none⟩):=by
 cases h with
 |c h=>cases h
 |ptr hp hn=>exact ⟨_,hp,hn,rfl⟩
theorem VRel.sl_inv2 {b o n:Nat}(h:VRel F β w (.sl b o n) v): ∃ p,β b=some p∧((p.nil=false∧ ∃ c,v= .slice (some ⟨p.blk,p.st+o,none⟩) n c∧n≤c∧p.st+o+c*p.k≤p.lim)∨(n=0∧ ∃ A,v= .slice A 0 0∧ ∀ ad,A=some ad→p.nil=false∧ad.block=p.blk)):=by
 cases h with
 |c h=>cases h
 |sl hp hn hc hl=>exact ⟨_,hp,.inl ⟨hn,_,rfl,hc,hl⟩⟩
 |slz hp ha=>exact ⟨_,hp,.inr ⟨rfl,_,rfl,ha⟩⟩
theorem VRel.sl_inv {b o n:Nat}(h:VRel F β w (.sl b o n) v): ∃ p,β b=some p∧((p.nil=false∧ ∃ c,v= .slice (some ⟨p.blk,p.st+o,none⟩) n c∧n≤c∧p.st+o+c*p.k≤p.lim)∨(n=0∧ ∃ A,v= .slice A 0 0)):=by
 cases h with
 |c h=>cases h
 |sl hp hn hc hl=>exact ⟨_,hp,.inl ⟨hn,_,rfl,hc,hl⟩⟩
 |slz hp ha=>exact ⟨_,hp,.inr ⟨rfl,_,rfl⟩⟩
end
theorem Below.cell_at {w w':World}(h:RowKit.Below w.heap.size w w'){a:Addr}{v:Value}(hc:w.cell? a=some v):w'.cell? a=some v:=by
 rw [h.cell (World.block_lt_of_cell? w a hc)];exact hc
def memAt (H:List (Nat×AObj)):AV→Option (List AV)
 | .vptr cs=>some cs
 | .ptr b o=>match hget H b with
  |some (.row _ _ _ cs)=>some (cs.drop o)
  |some (.box _ cs)=>some (cs.drop o)
  |_=>none
 |_=>none
theorem Zi {w:World}{blk:Nat}{te:TypeId}{c:Array Value}{fr:Nat×Nat}(h:CellsAt w blk te c fr)(o:Nat):w.cell? ⟨blk,o,none⟩=c[o]? :=by
 have ht:w.heap[blk]? =some (.cells c te fr):=h.1
 simp [World.cell?,ht]
theorem SatB.mem {c:Ctx}{s:St}{β:Emb}{a:Act}{w:World}(hs:SatB c s β a w){x:AV}{v:Value}(hv:VRel c.F β w x v){cs:List AV}(hm:memAt s.H x=some cs):
 ∃ b o,v= .pointer (some ⟨b,o,none⟩)∧b<w.heap.size∧ ∀ (i:Nat) (y:AV),cs[i]? =some y→ ∃ u,w.cell? ⟨b,o+i,none⟩=some u∧VRel c.F β w y u∧u.oneCell'=true:=by
 cases x using AV.parts with
 |vptr ds=>
  cases hm
  obtain ⟨b,o,rfl,_,hb,h⟩:=hv.vptr_inv;exact ⟨b,o,rfl,hb,fun i y hy=>let ⟨u,hu,hr,h1⟩:=h i y hy;⟨u,hu,.c hr,h1⟩⟩
 |ptr b o=>
  obtain ⟨p,hp,hn,rfl⟩:=hv.ptr_inv
  simp only [memAt] at hm
  cases hg:hget s.H b with
  |none=>simp [hg] at hm
  |some ob=>
   obtain ⟨p',hp',hr⟩:=hs.heap.obj b ob hg
   rw [hp] at hp';cases hp'
   cases ob with
   |row te k fz ds=>
    simp only [hg,Option.some.injEq] at hm
    subst hm
    obtain ⟨_,_,h3⟩:=hr;obtain ⟨cv,fr,hc,_,_,h6,_⟩:=h3 hn
    have hlt:p.blk<w.heap.size:=(Array.getElem?_eq_some_iff.1 hc.1).1
    refine ⟨_,_,rfl,hlt,fun i y hy=> ?_⟩
    rw [List.getElem?_drop] at hy
    obtain ⟨u,hu,hcr,h1⟩:=h6 _ y hy;exact ⟨u,by rw [Zi hc,Nat.add_assoc];exact hu,.c hcr,h1⟩
   |box tb ds=>
    simp only [hg,Option.some.injEq] at hm
    subst hm
    obtain ⟨_,cv,fr,hc,_,h6,_⟩:=hr
    have hlt:p.blk<w.heap.size:=(Array.getElem?_eq_some_iff.1 hc.1).1
    refine ⟨_,_,rfl,hlt,fun i y hy=> ?_⟩
    rw [List.getElem?_drop] at hy
    obtain ⟨u,hu,hcr,h1⟩:=h6 _ y hy;exact ⟨u,by rw [Zi hc,Nat.add_assoc];exact hu,hcr,h1⟩
   |map es=>simp [hg] at hm
   |siter sx pos=>simp [hg] at hm
 |_=>simp [memAt] at hm
def aggD:TypeDesc→Bool
 | .struct _| .array _ _=>true
 |_=>false
section
variable {c:Ctx} {t:Nat} {ti:TI} (h:tget c.U t=some ti) (w:World)
include h
theorem zx:c.P.underlying t=some ti.desc:=(c.hU t ti h).1
theorem QS:(sizeOf t).run c.P w= .ok ti.size w:=by
 obtain ⟨_,i,hi,h1,_⟩:=c.hU t ti h
 simp [sizeOf,typeInfo,hi,h1]
theorem ty_zero:(zeroValue t).run c.P w= .ok ti.zero w:=by
 obtain ⟨_,i,hi,_,_,h3⟩:=c.hU t ti h
 simp [zeroValue,typeInfo,hi,h3]
theorem ty_info: ∃ i,c.P.info? t=some i∧i.size=ti.size∧i.bytes=ti.bytes∧i.zero=some ti.zero:=(c.hU t ti h).2
theorem ty_agg:(isAgg t).run c.P w= .ok (aggD ti.desc) w:=by
 unfold isAgg
 simp only [Sem.run_bind,run_underlying (zx h),Result.andThen_ok]
 cases ti.desc<;>rfl
theorem ty_desc:(underlying t).run c.P w= .ok ti.desc w:=run_underlying (zx h) w
end
theorem run_equalIn_bool {P:Program}(w:World)(d:Nat){t:TypeId}(a b:Bool)(h:P.underlying t=some .bool):(Op.equalIn (d+1) t (.bool a) (.bool b)).run P w= .ok (a==b) w:=by
 simp [Op.equalIn,run_underlying h]
section
variable {c:Ctx} {s:St} {d:Option Tmp} {ty:TypeId} {pos:String} {af:Array Edge} {g:Option (Nat×Bool)}
theorem s_move {x:Operand}{ax:AV}(hx:opv s.T x=some ax):QOpS c ⟨d,.move x,ty,pos,af,g⟩ s ax:=by
 intro a w β hs
 exact ⟨_,hs.op hx,fun w'=>rfl⟩
theorem q_move {x:Operand}{ax:AV}(hx:opv s.T x=some ax):QOp c ⟨d,.move x,ty,pos,af,g⟩ s ax:=(s_move hx).later
theorem s_assign {x:Operand}{ax:AV}(hx:opv s.T x=some ax):QOpS c ⟨d,.assign x,ty,pos,af,g⟩ s ax:=by
 intro a w β hs
 exact ⟨_,hs.op hx,fun w'=>rfl⟩
theorem q_assign {x:Operand}{ax:AV}(hx:opv s.T x=some ax):QOp c ⟨d,.assign x,ty,pos,af,g⟩ s ax:=(s_assign hx).later
theorem q_pick_true {x y z:Operand}{ax:AV}(hc:opv s.T x=some (.pl (.bool true)))(hx:opv s.T y=some ax):QOp c ⟨d,.pick x y z,ty,pos,af,g⟩ s ax:=by
 intro a w β hs
 exact ⟨_,hs.op hx,fun w' _=>by simp [execOp,asBool,hs.pl hc]⟩
theorem q_pick_false {x y z:Operand}{ax:AV}(hc:opv s.T x=some (.pl (.bool false)))(hx:opv s.T z=some ax):QOp c ⟨d,.pick x y z,ty,pos,af,g⟩ s ax:=by
 intro a w β hs
 exact ⟨_,hs.op hx,fun w' _=>by simp [execOp,asBool,hs.pl hc]⟩
theorem q_un {op:UnOp}{t:TypeId}{x:Operand}{u r:Value}(hx:opv s.T x=some (.pl u))(hr: ∀ w',(Op.unary op u).run c.P w'= .ok r w'):QOp c ⟨d,.unOp op t x,ty,pos,af,g⟩ s (.pl r):=by
 intro a w β hs
 exact ⟨_,.c (.pl r),fun w' _=>by simp [execOp,hs.pl hx,hr]⟩
theorem q_bin {op:BinOp}{t t':TypeId}{x y:Operand}{u v r:Value}(hx:opv s.T x=some (.pl u))(hy:opv s.T y=some (.pl v))
 (hg:eqGuard op t x y u v=pure ()) (hr: ∀ w',(binOp op t u v).run c.P w'= .ok r w'):QOp c ⟨d,.binOp op t x y t',ty,pos,af,g⟩ s (.pl r):=by
 intro a w β hs
 exact ⟨_,.c (.pl r),fun w' _=>by simp [execOp,hs.pl hx,hs.pl hy,hg,hr]⟩
theorem q_int {op:BinOp}{t t':TypeId}{x y:Operand}{k:IntKind}{m n:Int}{r:Value}(hx:opv s.T x=some (.pl (.int k m)))(hy:opv s.T y=some (.pl (.int k n)))
 (hr: ∀ w',(binOp op t (.int k m) (.int k n)).run c.P w'= .ok r w'):QOp c ⟨d,.binOp op t x y t',ty,pos,af,g⟩ s (.pl r):=
 q_bin hx hy (by cases op<;>rfl) hr
theorem q_cmp {op:BinOp}{t t':TypeId}{x y:Operand}{k:IntKind}{m n:Int}{b:Bool}(hx:opv s.T x=some (.pl (.int k m)))(hy:opv s.T y=some (.pl (.int k n)))
 (hb:binOp op t (.int k m) (.int k n)=pure (.bool b)):QOp c ⟨d,.binOp op t x y t',ty,pos,af,g⟩ s (.pl (.bool b)):=
 q_int hx hy fun w'=>by rw [hb];rfl
theorem q_str {op:BinOp}{t t':TypeId}{x y:Operand}{m n:ByteArray}{r:Value}(hx:opv s.T x=some (.pl (.string m)))(hy:opv s.T y=some (.pl (.string n)))
 (hr: ∀ w',(Op.stringOp op m n).run c.P w'= .ok r w'):QOp c ⟨d,.binOp op t x y t',ty,pos,af,g⟩ s (.pl r):=
 q_bin hx hy (by cases op<;>rfl) (fun w'=>by
  have:binOp op t (.string m) (.string n)=Op.stringOp op m n:=by cases op<;>rfl
  rw [this];exact hr w')
theorem q_bool {op:BinOp}{t t':TypeId}{x y:Operand}{m n r:Bool}{ti:TI}(ht:tget c.U t=some ti)(hd:ti.desc= .bool)(hx:opv s.T x=some (.pl (.bool m)))(hy:opv s.T y=some (.pl (.bool n)))
 (hop:(op= .eql∧r=(m==n))∨(op= .neq∧r= !(m==n))):QOp c ⟨d,.binOp op t x y t',ty,pos,af,g⟩ s (.pl (.bool r)):=by
 have hu:=zx ht
 rw [hd] at hu
 have he: ∀ w',(Op.equal t (.bool m) (.bool n)).run c.P w'= .ok (m==n) w':=fun w'=>run_equalIn_bool w' 9999 m n hu
 refine q_bin hx hy (by cases op<;>rfl) (fun w'=> ?_)
 rcases hop with ⟨rfl,rfl⟩|⟨rfl,rfl⟩
 ·have:binOp .eql t (.bool m) (.bool n)=(do pure (.bool (←Op.equal t (.bool m) (.bool n)))):=rfl
  rw [this];simp only [Sem.run_bind,he,Result.andThen_ok,Sem.run_pure]
 ·have:binOp .neq t (.bool m) (.bool n)=(do pure (.bool (!(←Op.equal t (.bool m) (.bool n))))):=rfl
  rw [this];simp only [Sem.run_bind,he,Result.andThen_ok,Sem.run_pure]
theorem q_conv_int {src dst:TypeId}{x:Operand}{k:IntKind}{n:Int}{t1 t2:TI}{k2:IntKind}(h1:tget c.U src=some t1)(h2:tget c.U dst=some t2)(hk:t2.desc= .int k2)
 (hx:opv s.T x=some (.pl (.int k n))):QOp c ⟨d,.convert src dst x,ty,pos,af,g⟩ s (.pl (.int k2 (k2.wrap n))):=by
 intro a w β hs
 refine ⟨_,.c (.pl _),fun w' _=> ?_⟩
 have hu:=zx h2
 rw [hk] at hu
 simp [execOp,hs.pl hx,convert,run_underlying (zx h1),run_underlying hu,Conv.intToInt]
theorem q_extract {x:Operand}{i:Nat}{xs:List AV}{ax:AV}(hx:opv s.T x=some (.tup xs))(hi:xs[i]? =some ax):QOp c ⟨d,.extract x i,ty,pos,af,g⟩ s ax:=by
 intro a w β hs
 obtain ⟨vs,hv,_,h⟩:=(hs.op hx).tup_inv;obtain ⟨u,hu,hr⟩:=h i ax hi;exact ⟨u,hr,fun w' _=>by simp [execOp,hv,Instr.extract,hu]⟩
theorem q_field {t:TypeId}{x:Operand}{i:Nat}{xs:List AV}{ti fi:TI}{fs:Array Field}{f:Field}{ax:AV}(ht:tget c.U t=some ti)(hd:ti.desc= .struct fs)(hf:fs[i]? =some f)
 (hft:tget c.U f.type=some fi) (hfa:aggD fi.desc=false) (hx:opv s.T x=some (.agg xs)) (hi:xs[f.offset]? =some ax):QOp c ⟨d,.field t x i,ty,pos,af,g⟩ s ax:=by
 intro a w β hs
 obtain ⟨vs,hv,_,h⟩:=(hs.op hx).agg_inv;obtain ⟨u,hu,hr⟩:=h _ ax hi
 have hu':=zx ht
 rw [hd] at hu'
 refine ⟨u,hr,fun w' _=> ?_⟩
 simp [execOp,hv,Instr.field,run_underlying hu',hf,asAgg,part,ty_agg hft,hfa,hu]
def addrOff:AV→Nat→Option AV
 | .vptr cs,o=>some (.vptr (cs.drop o))
 | .ptr b o',o=>some (.ptr b (o'+o))
 |_,_=>none
theorem VRel.addrOff {F:Nat→Prop}{β:Emb}{w:World}{x y:AV}{v:Value}{o:Nat}(h:VRel F β w x v)(hy:Abs.addrOff x o=some y):
 ∃ b o',v= .pointer (some ⟨b,o',none⟩)∧VRel F β w y (.pointer (some ⟨b,o'+o,none⟩)):=by
 cases x using AV.parts<;>simp only [Abs.addrOff,Option.some.injEq] at hy<;>try cases hy
 ·obtain ⟨b,o',rfl,ho,hb,h⟩:=h.vptr_inv;refine ⟨b,o',rfl,.c (VRel.vptr_mk ho hb fun i y hy=> ?_)⟩
  rw [List.getElem?_drop] at hy
  rw [Nat.add_assoc]
  exact h _ y hy
 ·obtain ⟨p,hp,hn,rfl⟩:=h.ptr_inv;exact ⟨_,_,rfl,by rw [Nat.add_assoc];exact .ptr hp hn⟩
theorem s_fieldAddr {t:TypeId}{x:Operand}{i:Nat}{ax ay:AV}{ti fi:TI}{fs:Array Field}{f:Field}(ht:tget c.U t=some ti)(hd:ti.desc= .struct fs)(hf:fs[i]? =some f)
 (hft:tget c.U f.type=some fi) (hne:Nat.beq fi.size 0=false) (hx:opv s.T x=some ax) (hy:addrOff ax f.offset=some ay):QOpS c ⟨d,.fieldAddr t x i,ty,pos,af,g⟩ s ay:=by
 intro a w β hs
 obtain ⟨b,o',hv,hr⟩:=(hs.op hx).addrOff hy
 have hu':=zx ht
 rw [hd] at hu'
 refine ⟨_,hr,fun w'=> ?_⟩
 simp [execOp,hv,Instr.fieldAt,run_underlying hu',hf,Instr.sureAddr,fieldPlace,QS hft,Nat.ne_of_beq_eq_false hne,Addr.add_lit]
theorem q_fieldAddr {t:TypeId}{x:Operand}{i:Nat}{ax ay:AV}{ti fi:TI}{fs:Array Field}{f:Field}(ht:tget c.U t=some ti)(hd:ti.desc= .struct fs)(hf:fs[i]? =some f)
 (hft:tget c.U f.type=some fi) (hne:Nat.beq fi.size 0=false) (hx:opv s.T x=some ax) (hy:addrOff ax f.offset=some ay):QOp c ⟨d,.fieldAddr t x i,ty,pos,af,g⟩ s ay:=(s_fieldAddr ht hd hf hft hne hx hy).later
theorem s_nilCheck {x:Operand}{ax ay:AV}(hx:opv s.T x=some ax)(hy:addrOff ax 0=some ay):QOpS c ⟨d,.nilCheck x,ty,pos,af,g⟩ s ax:=by
 intro a w β hs
 obtain ⟨b,o',hv,_⟩:=(hs.op hx).addrOff hy;exact ⟨_,hs.op hx,fun w'=>by simp [execOp,hv]⟩
theorem q_nilCheck {x:Operand}{ax ay:AV}(hx:opv s.T x=some ax)(hy:addrOff ax 0=some ay):QOp c ⟨d,.nilCheck x,ty,pos,af,g⟩ s ax:=(s_nilCheck hx hy).later
theorem a_add (b o n:Nat):Addr.add ⟨b,o,none⟩ n=⟨b,o+n,none⟩:=Addr.add_lit b o n
theorem s_indexAddr_vs {t:TypeId}{x y:Operand}{n:Nat}{cs:List AV}{k:IntKind}{i:Nat}{ti ei:TI}{e:TypeId}(ht:tget c.U t=some ti)(hd:ti.desc= .slice e)(he:tget c.U e=some ei)
 (hx:opv s.T x=some (.vs n cs)) (hy:opv s.T y=some (.pl (.int k (i:Int)))) (hi:i<n):QOpS c ⟨d,.indexAddr t x y,ty,pos,af,g⟩ s (.vptr (cs.drop (i*ei.size))):=by
 intro a w β hs
 obtain ⟨A,cap,hv,_,h⟩:=(hs.op hx).vs_inv
 rcases h with h0|⟨b,o,rfl,ho,hb,h⟩
 ·omega
 have hu':=zx ht
 rw [hd] at hu'
 refine ⟨.pointer (some ⟨b,o+i*ei.size,none⟩),.c (VRel.vptr_mk ho hb fun j y hy=> ?_),fun w'=> ?_⟩
 ·rw [List.getElem?_drop] at hy
  rw [Nat.add_assoc]
  exact h _ y hy
 ·simp [execOp,hv,hs.pl hy,Instr.indexAt,asIntOf,run_underlying hu',hi,QS he,a_add]
theorem s_indexAddr_sl {t:TypeId}{x y:Operand}{b o n:Nat}{k:IntKind}{i:Nat}{ti ei:TI}{e:TypeId}(ht:tget c.U t=some ti)(hd:ti.desc= .slice e)(he:tget c.U e=some ei)
 (hx:opv s.T x=some (.sl b o n)) (hy:opv s.T y=some (.pl (.int k (i:Int)))) (hi:i<n):QOpS c ⟨d,.indexAddr t x y,ty,pos,af,g⟩ s (.ptr b (o+i*ei.size)):=by
 intro a w β hs
 obtain ⟨p,hp,⟨hn,cap,hv,_,_⟩|⟨h0,_⟩⟩:=(hs.op hx).sl_inv
 ·have hu':=zx ht
  rw [hd] at hu'
  refine ⟨.pointer (some ⟨p.blk,p.st+(o+i*ei.size),none⟩),.ptr hp hn,fun w'=> ?_⟩
  simp [execOp,hv,hs.pl hy,Instr.indexAt,asIntOf,run_underlying hu',hi,QS he,a_add,Nat.add_assoc]
 ·omega
theorem s_indexAddr_sl0 {t:TypeId}{x y:Operand}{b n:Nat}{k:IntKind}{i:Nat}{ti ei:TI}{e:TypeId}(ht:tget c.U t=some ti)(hd:ti.desc= .slice e)(he:tget c.U e=some ei)
 (hx:opv s.T x=some (.sl b 0 n)) (hy:opv s.T y=some (.pl (.int k (i:Int)))) (hi:i<n):QOpS c ⟨d,.indexAddr t x y,ty,pos,af,g⟩ s (.ptr b (i*ei.size)):=by
 have:=s_indexAddr_sl (d:=d) (ty:=ty) (pos:=pos) (af:=af) (g:=g) ht hd he hx hy hi
 rwa [Nat.zero_add] at this
theorem q_indexAddr_sl0 {t:TypeId}{x y:Operand}{b n:Nat}{k:IntKind}{i:Nat}{ti ei:TI}{e:TypeId}(ht:tget c.U t=some ti)(hd:ti.desc= .slice e)(he:tget c.U e=some ei)
 (hx:opv s.T x=some (.sl b 0 n)) (hy:opv s.T y=some (.pl (.int k (i:Int)))) (hi:i<n):QOp c ⟨d,.indexAddr t x y,ty,pos,af,g⟩ s (.ptr b (i*ei.size)):=(s_indexAddr_sl0 ht hd he hx hy hi).later
theorem q_load {t:TypeId}{x:Operand}{ax ay:AV}{cs:List AV}{ti:TI}(ht:tget c.U t=some ti)(ha:aggD ti.desc=false)(hx:opv s.T x=some ax)(hm:memAt s.H ax=some cs)(hc:cs.head? =some ay):
 QOp c ⟨d,.load t x,ty,pos,af,g⟩ s ay:=by
 intro a w β hs
 obtain ⟨b,o,hv,hb,h⟩:=hs.mem (hs.op hx) hm;obtain ⟨u,hu,hr,_⟩:=h 0 ay (by cases cs<;>simp_all);refine ⟨u,hr,fun w' hbl=> ?_⟩
 have:=Below.cell_at hbl hu
 simp only [Nat.add_zero] at this
 simp [execOp,hv,Instr.loadAt,Instr.sureAddr,loadVar,ty_agg ht,ha,this]
theorem q_load_agg {t:TypeId}{x:Operand}{ax:AV}{cs es:List AV}{ti:TI}(ht:tget c.U t=some ti)(ha:aggD ti.desc=true)(hx:opv s.T x=some ax)(hm:memAt s.H ax=some cs)(hc:cs.take ti.size=es)(hl:es.length=ti.size):
 QOp c ⟨d,.load t x,ty,pos,af,g⟩ s (.agg es):=by
 intro a w β hs
 obtain ⟨b,o,hv,hb,h⟩:=hs.mem (hs.op hx) hm
 have hcell: ∀ (i:Nat) (y:AV),es[i]? =some y→ ∃ u,w.cell? ⟨b,o+i,none⟩=some u∧VRel c.F β w y u∧u.oneCell'=true:=fun i y hy=>by
  subst hc
  have hi:i<ti.size:=by rw [←hl];exact (List.getElem?_eq_some_iff.1 hy).1
  rw [List.getElem?_take_of_lt hi] at hy
  exact h i y hy
 let us:List Value:=(List.range es.length).map fun i=>(w.cell? ⟨b,o+i,none⟩).getD undef
 have hus: ∀ i,i<es.length→us[i]? =w.cell? ⟨b,o+i,none⟩:=fun i hi=>by
  obtain ⟨u,hu,_⟩:=hcell i es[i] (by simp [hi])
  simp [us,hi,hu]
 refine ⟨.agg us.toArray,.agg (by simp [us]) (fun i y v hy hv=> ?_),fun w' hbl=> ?_⟩
 ·obtain ⟨u,hu,hr,_⟩:=hcell i y hy
  have hi:i<es.length:=(List.getElem?_eq_some_iff.1 hy).1
  simp only [List.getElem?_toArray] at hv
  rw [hus i hi,hu] at hv
  cases hv;exact hr
 ·have hlen:us.length=ti.size:=by simp [us,hl]
  have:=run_loadCells_list (P:=c.P) w' ⟨b,o,none⟩ us (fun j v hj=>by
   have hjl:j<es.length:=by have:=(List.getElem?_eq_some_iff.1 hj).1;simpa [us] using this
   rw [hus j hjl] at hj
   rw [a_add]
   exact Below.cell_at hbl hj)
  rw [hlen] at this
  simp [execOp,hv,Instr.loadAt,Instr.sureAddr,loadVar,ty_agg ht,ha,QS ht,this]
end
end Go.Abs
set_option linter.unusedVariables false
set_option linter.unusedSimpArgs false
namespace Go.Abs
open Go
variable [GTab]
abbrev Post:=AV→List (Nat×AObj)→List Nat→Prop
def Rpost (Q:Post)(F:Nat→Prop)(β:Emb)(w:World)(e:Ending)(w':World):Prop:=
 ∃ r v H' M β',e= .returned v∧Q r H' M∧HRel F β' H' w'∧VRel F β' w' r v∧Keeps β w β' w'∧(∀ b p,β b=some p→mem b M=false→β' b=some p)
def Args (F:Nat→Prop)(β:Emb)(w:World)(args:List AV)(vs:List Value):Prop:=
 args.length=vs.length∧ ∀ (i:Nat) (x:AV) (v:Value),args[i]? =some x→vs[i]? =some v→VRel F β w x v
def ASpec (P:Program)(k:FuncId)(args:List AV)(H:List (Nat×AObj))(Q:Post):Prop:=
 (∀ (es:Array Value) (w:World),(callFunc k es).run P w= .ok (.enter k es) w)∧
 ∀ (F:Nat→Prop) (β:Emb) (w:World) (vs:List Value),HRel F β H w→Args F β w args vs→Calls P k vs.toArray w (Rpost Q F β w)
def PSpec (P:Program)(k:FuncId)(args:List AV)(r:AV):Prop:=ASpec P k args [] (fun r' H' _=>r'=r∧H'=[])
def enumT:Nat→List AV→List (Nat×AV)
 |_,[]=>[]
 |i,x::r=>(i,x)::enumT (i+1) r
theorem get_enumT: ∀ (l:List AV) (n i:Nat),get (enumT n l) i=if n≤i then l[i-n]? else none
 |[],n,i=>by simp [enumT,get]
 |x::r,n,i=>by
  rw [enumT,Qf,get_enumT r (n+1) i]
  by_cases h:n=i
  ·subst h;simp
  ·rw [if_neg h]
   by_cases h2:n≤i
   ·rw [if_pos h2,if_pos (by omega),show i-n=(i-(n+1))+1 by omega,List.getElem?_cons_succ]
   ·rw [if_neg h2,if_neg (by omega)]
theorem ASpec.mono {P:Program}{k:FuncId}{args:List AV}{H:List (Nat×AObj)}{Q Q':Post}(h:ASpec P k args H Q)(hq: ∀ r H M,Q r H M→Q' r H M):ASpec P k args H Q':=
 ⟨h.1,fun F β w vs hH ha=>(h.2 F β w vs hH ha).mono fun e w' ⟨r,v,H',M,β',he,hQ,rest⟩=>⟨r,v,H',M,β',he,hq _ _ _ hQ,rest⟩⟩
def resOne (U:List (Nat×TI))(T:List (Nat×AV))(H:List (Nat×AObj)):ResultVar→Option AV
 | .tmp t=>get T t
 | .cell t ty=>match get T t with
  |none=>none
  |some ax=>match memAt H ax with
   |none=>none
   |some cs=>match tget U ty with
    |none=>none
    |some ti=>match aggD ti.desc with
     |true=>match Nat.beq (cs.take ti.size).length ti.size with
      |true=>some (.agg (cs.take ti.size))
      |false=>none
     |false=>cs.head?
def resL (U:List (Nat×TI))(T:List (Nat×AV))(H:List (Nat×AObj)):List ResultVar→Option (List AV)
 |[]=>some []
 |x::r=>match resOne U T H x with
  |none=>none
  |some a=>match resL U T H r with
   |none=>none
   |some l=>some (a::l)
def resAV (U:List (Nat×TI))(T:List (Nat×AV))(H:List (Nat×AObj))(rs:List ResultVar):Option AV:=
 match resL U T H rs with
 |none=>none
 |some [x]=>some x
 |some l=>some (.tup l)
theorem run_load_of {c:Ctx}{s:St}{β:Emb}{a:Act}{w:World}(hs:SatB c s β a w){ty:TypeId}{ti:TI}(ht:tget c.U ty=some ti){ax:AV}{v:Value}(hv:VRel c.F β w ax v){cs:List AV}(hm:memAt s.H ax=some cs){r:AV}
 (hr:(aggD ti.desc=true∧(cs.take ti.size).length=ti.size∧r= .agg (cs.take ti.size))∨(aggD ti.desc=false∧cs.head? =some r)):
 ∃ ad u,v= .pointer (some ad)∧(loadVar ty ad).run c.P w= .ok u w∧VRel c.F β w r u:=by
 obtain ⟨b,o,hv',hb,h⟩:=hs.mem hv hm
 have hop:opv ((0,ax)::[]) (.tmp 0)=some ax:=rfl
 have hsl:SatB ⟨c.P,c.U,c.hU,c.F,c.β0,c.w0,1,[]⟩ ⟨[(0,ax)],s.H,s.M⟩ β ⟨#[v],[]⟩ w:=by
  refine ⟨rfl,rfl,hs.heap,fun i x hx=> ?_,hs.keeps,hs.stay⟩
  rw [Qf] at hx
  by_cases e:0=i
  ·rw [if_pos e] at hx;cases hx;subst e;exact ⟨v,rfl,hv⟩
  ·rw [if_neg e] at hx;cases hx
 rcases hr with ⟨ha,hl,rfl⟩|⟨ha,hc⟩
 ·obtain ⟨u,hu,hrun⟩:=q_load_agg (c:=⟨c.P,c.U,c.hU,c.F,c.β0,c.w0,1,[]⟩) (d:=none) (ty:=0) (pos:= "") (af:= #[]) (g:=none) ht ha (s:=⟨[(0,ax)],s.H,s.M⟩) hop hm rfl hl _ w β hsl;refine ⟨_,u,hv',?_,hu⟩
  have:=hrun w (RowKit.Below.refl _ _)
  simp [execOp,Act.eval,hv',Instr.loadAt,Instr.sureAddr] at this
  generalize hq:(loadVar ty ⟨b,o,none⟩).run c.P w=q at this
  cases q with
  |ok a w1=>simp at this;obtain ⟨rfl,rfl⟩:=this;rfl
  |halt x w1=>simp at this
 ·obtain ⟨u,hu,hrun⟩:=q_load (c:=⟨c.P,c.U,c.hU,c.F,c.β0,c.w0,1,[]⟩) (d:=none) (ty:=0) (pos:= "") (af:= #[]) (g:=none) ht ha (s:=⟨[(0,ax)],s.H,s.M⟩) hop hm hc _ w β hsl;refine ⟨_,u,hv',?_,hu⟩
  have:=hrun w (RowKit.Below.refl _ _)
  simp [execOp,Act.eval,hv',Instr.loadAt,Instr.sureAddr] at this
  generalize hq:(loadVar ty ⟨b,o,none⟩).run c.P w=q at this
  cases q with
  |ok a w1=>simp at this;obtain ⟨rfl,rfl⟩:=this;rfl
  |halt x w1=>simp at this
def resSem (tmps:Array Value):ResultVar→Sem Value
 | .tmp t=>pure (tmps.getD t undef)
 | .cell ad t=>do loadVar t (←asAddr (tmps.getD ad undef))
theorem results_eq (fn:Func)(tmps:Array Value):results fn tmps=(do
 let vs←List.toArray <$> fn.results.toList.mapM (resSem tmps)
 pure (if h:vs.size=1 then vs[0] else .tuple vs)):=by
 unfold results
 rw [←List.mapM_toArray,Array.toArray_toList]
 rfl
theorem run_resOne {c:Ctx}{s:St}{β:Emb}{a:Act}{w:World}(hs:SatB c s β a w){x:ResultVar}{r:AV}(h:resOne c.U s.T s.H x=some r):
 ∃ u,(resSem a.tmps x).run c.P w= .ok u w∧VRel c.F β w r u:=by
 cases x with
 |tmp t=>exact ⟨_,rfl,hs.op (o:= .tmp t) h⟩
 |cell t ty=>
  simp only [resOne] at h
  split at h
  ·cases h
  rename_i ax hax
  split at h
  ·cases h
  rename_i cs hm
  split at h
  ·cases h
  rename_i ti ht
  have hv:=hs.op (o:= .tmp t) hax
  have key:(aggD ti.desc=true∧(cs.take ti.size).length=ti.size∧r= .agg (cs.take ti.size))∨(aggD ti.desc=false∧cs.head? =some r):=by
   split at h
   ·rename_i ha
    split at h
    ·rename_i hb
     exact .inl ⟨ha,Nat.eq_of_beq_eq_true hb,by cases h;rfl⟩
    ·cases h
   ·rename_i ha
    exact .inr ⟨ha,h⟩
  obtain ⟨ad,u,hv',hrun,hr⟩:=run_load_of hs ht hv hm key;refine ⟨u,?_,hr⟩
  have hv2:a.tmps.getD t undef= .pointer (some ad):=hv'
  simp only [resSem,hv2,asAddr,Sem.run_bind,Sem.run_pure,Result.andThen_ok,hrun]
theorem run_resL {c:Ctx}{s:St}{β:Emb}{a:Act}{w:World}(hs:SatB c s β a w): ∀ {rs:List ResultVar} {l:List AV},resL c.U s.T s.H rs=some l→
 ∃ us:List Value,(rs.mapM (resSem a.tmps)).run c.P w= .ok us w∧us.length=l.length∧
  ∀ (i:Nat) (x:AV) (u:Value),l[i]? =some x→us[i]? =some u→VRel c.F β w x u
 |[],l,h=>by cases h;exact ⟨[],rfl,rfl,by simp⟩
 |x::r,l,h=>by
  simp only [resL] at h
  split at h
  ·cases h
  rename_i a1 h1
  split at h
  ·cases h
  rename_i l1 h2
  cases h
  obtain ⟨u,hu,hr⟩:=run_resOne hs h1;obtain ⟨us,hus,hlen,hall⟩:=run_resL hs h2;refine ⟨u::us,?_,by simp [hlen],fun i y v hy hv=> ?_⟩
  ·rw [List.mapM_cons]
   simp only [Sem.run_bind,hu,Result.andThen_ok,hus,Sem.run_pure]
  ·cases i with
   |zero=>simp at hy hv;subst hy;subst hv;exact hr
   |succ i=>exact hall i y v (by simpa using hy) (by simpa using hv)
theorem run_results {c:Ctx}{s:St}{β:Emb}{a:Act}{w:World}(hs:SatB c s β a w){fn:Func}{r:AV}(h:resAV c.U s.T s.H fn.results.toList=some r):
 ∃ u,(results fn a.tmps).run c.P w= .ok u w∧VRel c.F β w r u:=by
 unfold resAV at h
 split at h
 ·cases h
 ·rename_i x hx
  cases h
  obtain ⟨us,hus,hlen,hall⟩:=run_resL hs hx
  match us,hlen with
  |[u],_=>
   refine ⟨u,?_,hall 0 _ u rfl rfl⟩
   rw [results_eq]
   simp only [Sem.run_bind,Sem.run_map,hus,Result.andThen_ok,Sem.run_pure]
   simp
 ·rename_i l hl hx
  cases h
  obtain ⟨us,hus,hlen,hall⟩:=run_resL hs hx;refine ⟨.tuple us.toArray,?_,.tup (by simp [hlen]) (fun i x v hx hv=>hall i x v hx (by simpa using hv))⟩
  rw [results_eq]
  simp only [Sem.run_bind,Sem.run_map,hus,Result.andThen_ok,Sem.run_pure]
  have: ¬ us.length=1:=fun h1=>by
   rw [hlen] at h1
   match l,h1 with
   |[z],_=>exact hl z rfl
  simp [this]
mutual
def AV.closed:AV→Bool
 | .pl _=>true
 | .agg cs=>AV.closedL cs
 | .tup cs=>AV.closedL cs
 | .fn _ cs ds=>AV.closedL cs&&AV.closedL ds
 | .ifc _ x=>AV.closed x
 | .optr _ _=>true
 | .vs _ _=>true
 | .vm _ _=>true
 |_=>false
def AV.closedL:List AV→Bool
 |[]=>true
 |x::r=>AV.closed x&&AV.closedL r
end
theorem AV.closedL_get: ∀ {l:List AV} (h:AV.closedL l=true) {i:Nat} {x:AV},l[i]? =some x→x.closed=true
 |[],_,i,x,hx=>by simp at hx
 |y::r,h,0,x,hx=>by simp [AV.closedL] at h hx;subst hx;exact h.1
 |y::r,h,i+1,x,hx=>by simp [AV.closedL] at h hx;exact AV.closedL_get h.2 hx
theorem VRel.closed {F:Nat→Prop}{β:Emb}{w:World}{x:AV}{v:Value}(h:VRel F β w x v)(hc:x.closed=true):CRel (off F β) w x v:=by
 induction h with
 |c h=>exact h
 |agg hl _ ih=>exact .agg hl fun i x v hx hv=>ih i x v hx hv (AV.closedL_get (by simpa [AV.closed] using hc) hx)
 |tup hl _ ih=>exact .tup hl fun i x v hx hv=>ih i x v hx hv (AV.closedL_get (by simpa [AV.closed] using hc) hx)
 |fn hl _ hl2 _ ih ih2=>
  simp only [AV.closed,Bool.and_eq_true] at hc
  exact .fn hl (fun i x v hx hv=>ih i x v hx hv (AV.closedL_get hc.1 hx)) hl2 (fun i x v hx hv=>ih2 i x v hx hv (AV.closedL_get hc.2 hx))
 |ifc _ ih=>exact .ifc (ih (by simpa [AV.closed] using hc))
 |_=>simp [AV.closed] at hc
def noEmb:Emb:=fun _=>none
theorem JI (k:Nat): ¬ own noEmb k:=by rintro ⟨b,p,h,_⟩;cases h
theorem VRel.up {F F':Nat→Prop}{β β':Emb}{w w':World}(hn: ∀ b,β' b=none)(hs:w.heap.size≤w'.heap.size)(hO: ∀ b,off F β b→off F' β' b∨w.heap.size≤b)
 (hw: ∀ b,b<w.heap.size→ ¬ off F' β' b→w'.heap[b]? =w.heap[b]?) {x:AV} {v:Value} (h:VRel F' β' w x v):VRel F β w' x v:=by
 induction h with
 |c h=>exact .c (h.mono hs hO hw)
 |agg hl _ ih=>exact .agg hl ih
 |tup hl _ ih=>exact .tup hl ih
 |fn hl _ hl2 _ ih ih2=>exact .fn hl ih hl2 ih2
 |ifc _ ih=>exact .ifc ih
 |ptr hp _=>rw [hn] at hp;cases hp
 |pnil=>exact .pnil
 |sl hp _ _ _=>rw [hn] at hp;cases hp
 |slz hp ha=>rw [hn] at hp;cases hp
 |mp hp _=>rw [hn] at hp;cases hp
 |it hp _=>rw [hn] at hp;cases hp
 |anyp=>exact .anyp
 |junk h=>exact .junk h
 |gone=>exact .gone
def opvL (T:List (Nat×AV)):List Operand→Option (List AV)
 |[]=>some []
 |x::r=>match opv T x with
  |none=>none
  |some a=>match opvL T r with
   |none=>none
   |some l=>some (a::l)
theorem opvL_get {c:Ctx}{s:St}{β:Emb}{a:Act}{w:World}(hs:SatB c s β a w): ∀ {xs:List Operand} {l:List AV},opvL s.T xs=some l→Args c.F β w l (xs.map a.eval)
 |[],l,h=>by cases h;exact ⟨rfl,by simp⟩
 |x::r,l,h=>by
  simp only [opvL] at h
  split at h
  ·cases h
  rename_i a1 h1
  split at h
  ·cases h
  rename_i l1 h2
  cases h
  obtain ⟨hl,hall⟩:=opvL_get hs h2;refine ⟨by simp [hl],fun i y v hy hv=> ?_⟩
  cases i with
  |zero=>simp at hy hv;subst hy;subst hv;exact hs.op h1
  |succ i=>exact hall i y v (by simpa using hy) (by simpa using hv)
def calleeOf (T:List (Nat×AV)):Callee→Option (FuncId×List AV×List AV)
 | .value f=>match opv T f with
  |some (.fn (.func k) first cap)=>some (k,first,cap)
  |_=>none
 |_=>none
theorem Args.append {F:Nat→Prop}{β:Emb}{w:World}{l1 l2:List AV}{v1 v2:List Value}(h1:Args F β w l1 v1)(h2:Args F β w l2 v2):Args F β w (l1++l2) (v1++v2):=by
 refine ⟨by simp [h1.1,h2.1],fun i x v hx hv=> ?_⟩
 by_cases h:i<l1.length
 ·rw [List.getElem?_append_left h] at hx
  rw [List.getElem?_append_left (by rw [←h1.1];exact h)] at hv
  exact h1.2 i x v hx hv
 ·rw [List.getElem?_append_right (by omega)] at hx
  rw [List.getElem?_append_right (by rw [←h1.1];omega),←h1.1] at hv
  exact h2.2 _ x v hx hv
theorem zat {c:Ctx}{s:St}{β:Emb}{a:Act}{w:World}(hs:SatB c s β a w){cl:Call}{k:FuncId}{first cap es:List AV}(hk:calleeOf s.T cl.callee=some (k,first,cap))(ha:opvL s.T cl.args.toList=some es)
 (hent: ∀ (es:Array Value) (w:World),(callFunc k es).run c.P w= .ok (.enter k es) w) (o:Oper) (ho:o.op= .call cl):
 ∃ vs:List Value,Args c.F β w (first++es++cap) vs∧ ∀ w',(execOp a.eval o).run c.P w'= .ok (.enter k vs.toArray) w':=by
 obtain ⟨callee,cargs,argT⟩:=cl
 cases callee with
 |value f=>
  simp only [calleeOf] at hk
  split at hk
  ·rename_i k' fi ca hf
   cases hk
   obtain ⟨v1,v2,hv,h1,h2⟩:=(hs.op hf).fn_inv
   have hargs:=opvL_get hs ha
   have hA:Args c.F β w (first++es++cap) (v1.toList++cargs.toList.map a.eval++v2.toList):=by
    refine Args.append (Args.append ⟨by simp [h1.1],fun i x v hx hv=> ?_⟩ hargs) ⟨by simp [h2.1],fun i x v hx hv=> ?_⟩
    ·obtain ⟨u,hu,hr⟩:=h1.2 i x hx
     simp only [Array.getElem?_toList] at hv
     rw [hu] at hv;cases hv;exact hr
    ·obtain ⟨u,hu,hr⟩:=h2.2 i x hx
     simp only [Array.getElem?_toList] at hv
     rw [hu] at hv;cases hv;exact hr
   refine ⟨_,hA,fun w'=> ?_⟩
   have hfull:v1++Array.map a.eval cargs++v2=(v1.toList++cargs.toList.map a.eval++v2.toList).toArray:=by
    simp
   simp only [execOp,ho,resolve,hv,Deferred.ofValue,Sem.run_bind,Sem.run_pure,Result.andThen_ok,invoke,hent,hfull]
  ·cases hk
 |invoke _ _=>cases hk
 |builtin _=>cases hk
theorem HRel.lt {F:Nat→Prop}{β:Emb}{H:List (Nat×AObj)}{w:World}(h:HRel F β H w){k:Nat}(hk:off F β k):k<w.heap.size:=by
 rcases hk with hk|⟨b,p,hp,hn,rfl⟩
 ·exact h.fresh _ hk
 ·obtain ⟨ob,hob⟩:=h.dom b p hp;obtain ⟨p',hp',hr'⟩:=h.obj b ob hob
  rw [hp] at hp';cases hp'
  cases ob with
  |row te k fz cs=>obtain ⟨_,_,h3⟩:=hr';obtain ⟨cv,fr,ht,_⟩:=h3 hn;exact (Array.getElem?_eq_some_iff.1 ht.1).1
  |box tb cs=>obtain ⟨_,cv,fr,ht,_⟩:=hr';exact (Array.getElem?_eq_some_iff.1 ht.1).1
  |map es=>obtain ⟨_,ms,cl,ht,_⟩:=hr';exact (Array.getElem?_eq_some_iff.1 ht).1
  |siter sx pos=>exact (Array.getElem?_eq_some_iff.1 hr'.2).1
theorem HRel.empty {F:Nat→Prop}{β:Emb}{H:List (Nat×AObj)}{w:World}(h:HRel F β H w):HRel (off F β) noEmb [] w where
 obj:=fun b o h=>by cases h
 dom:=fun b p h=>by cases h
 inj:=fun b b' p p' h=>by cases h
 fresh:=fun k hk=>h.lt hk
 apart:=fun b p h=>by cases h
 glob:=h.glob.mono (Nat.le_refl _) (fun _ hk=> .inl (hk.elim id (fun h=>(JI _ h).elim))) (fun _ _ _=>rfl)
section
variable {c:Ctx} {Q:Exit→Act→World→Prop} {s:St} {ops:Array Oper} {rest:List Oper} {o:Oper}
theorem RunL_call {cl:Call}{k:FuncId}{first cap es:List AV}{r:AV}(ho:o.op= .call cl)(hk:calleeOf s.T cl.callee=some (k,first,cap))(ha:opvL s.T cl.args.toList=some es)
 (hspec:PSpec c.P k (first++es++cap) r) (hcl:AV.closedL (first++es++cap)=true) (hg:o.guard=none) (hd:dstOk c.N o.dst=true) (hr:RunL c ops Q rest ⟨putT s.T o.dst r,s.H,s.M⟩):RunL c ops Q (o::rest) s:=by
 rintro a w ⟨β,hs⟩
 obtain ⟨vs,hargs,hrun⟩:=zat hs hk ha hspec.1 o ho;refine wpList_plain hg fun K hK=> ?_;unfold Oper.wp
 rw [hrun w,Oper.upon_enter]
 have hH:HRel (off c.F β) noEmb [] w:=hs.heap.empty
 have hA:Args (off c.F β) noEmb w (first++es++cap) vs:=⟨hargs.1,fun i x v hx hv=>by
  have:=(hargs.2 i x v hx hv).closed (AV.closedL_get hcl hx)
  exact .c (this.mono (Nat.le_refl _) (fun b hb=> .inl (hb.elim id (fun h=>(JI _ h).elim))) (fun _ _ _=>rfl))⟩
 refine (hspec.2 (off c.F β) noEmb w vs hH hA).mono ?_
 rintro e w' ⟨r',v,H',M,β',rfl,⟨rfl,rfl⟩,hH',hv,hkp,_⟩
 have hn: ∀ b,β' b=none:=fun b=>by
  cases hb:β' b with
  |none=>rfl
  |some p=>obtain ⟨o,ho⟩:=hH'.dom b p hb;cases ho
 have hbl':=hkp.belowD JI
 have hbl:=hbl'.1
 have hs':=hs.later hbl'
 refine hK _ _ (hr _ _ ⟨β,hs'.put hd ?_⟩);exact hv.up hn (Nat.le_refl _) (fun b hb=> .inl (.inl hb)) (fun _ _ _=>rfl)
end
end Go.Abs
set_option linter.unusedVariables false
set_option linter.unusedSimpArgs false
namespace Go.Abs
open Go
variable [GTab]
def upd (β:Emb)(b:Nat)(p:Place):Emb:=fun i=>if b=i then some p else β i
theorem ZD (β:Emb)(b:Nat)(p:Place):upd β b p b=some p:=by simp [upd]
theorem upd_ne (β:Emb){b i:Nat}(p:Place)(h:b≠i):upd β b p i=β i:=by simp [upd,h]
theorem Qu {β:Emb}{b i:Nat}{p q:Place}(h:upd β b p i=some q):(b=i∧q=p)∨(b≠i∧β i=some q):=by
 unfold upd at h
 split at h
 ·rename_i e;cases h;exact .inl ⟨e,rfl⟩
 ·rename_i e;exact .inr ⟨e,h⟩
structure But (w w':World) (may:Nat→Prop):Prop where
 os:w'.os=w.os
 tape:w'.tape=w.tape∧w.drawn≤w'.drawn
 output:w'.output=w.output
 size:w.heap.size≤w'.heap.size
 block: ∀ k,k<w.heap.size→ ¬ may k→w'.heap[k]? =w.heap[k]?
theorem ORel.carry {F:Nat→Prop}{β β':Emb}{w w':World}{p:Place}{o:AObj}(hβ: ∀ b p,β b=some p→β' b=some p)(hs:w.heap.size≤w'.heap.size)
 (hO: ∀ b,off F β' b→off F β b∨w.heap.size≤b) (hw: ∀ b,b<w.heap.size→ ¬ off F β b→w'.heap[b]? =w.heap[b]?)
 (hp:p.nil=false→w'.heap[p.blk]? =w.heap[p.blk]?) (h:ORel F β w p o):ORel F β' w' p o:=by
 cases o with
 |row te k fz cs=>
  obtain ⟨h1,h2,h3⟩:=h;refine ⟨h1,h2,fun hn=> ?_⟩;obtain ⟨cv,fr,ht,h4,h5,h6,h7⟩:=h3 hn;exact ⟨cv,fr,⟨by rw [hp hn];exact ht.1,ht.2⟩,h4,h5,fun i x hx=>let ⟨v,hv,hc,h1c⟩:=h6 i x hx;⟨v,hv,hc.mono hs hO hw,h1c⟩,h7⟩
 |box tb cs=>
  obtain ⟨h1,cv,fr,ht,h5,h6,h7⟩:=h;exact ⟨h1,cv,fr,⟨by rw [hp h1];exact ht.1,ht.2⟩,h5,fun i x hx=>let ⟨v,hv,hc,h1c⟩:=h6 i x hx;⟨v,hv,hc.mono hβ hs hO hw,h1c⟩,h7⟩
 |map es=>
  obtain ⟨h1,ms,clock,h2,h3,h4,h5⟩:=h;refine ⟨h1,ms,clock,by rw [hp h1];exact h2,h3,fun i x e hx he=> ?_,h5⟩;obtain ⟨q1,q2,q3⟩:=h4 i x e hx he;exact ⟨q1.mono hs hO hw,q2.mono hs hO hw,q3⟩
 |siter sx pos=>exact ⟨h.1,by rw [hp h.1];exact h.2⟩
theorem ORel.carryKill {F:Nat→Prop}{β β':Emb}{w w':World}{p:Place}{o:AObj}{b0:Nat}(hβ: ∀ b p,b≠b0→β b=some p→β' b=some p)(hs:w.heap.size≤w'.heap.size)
 (hO: ∀ b,off F β' b→off F β b∨w.heap.size≤b) (hw: ∀ b,b<w.heap.size→ ¬ off F β b→w'.heap[b]? =w.heap[b]?)
 (hp:p.nil=false→w'.heap[p.blk]? =w.heap[p.blk]?) (h:ORel F β w p o):ORel F β' w' p (o.kill b0):=by
 cases o with
 |row te k fz cs=>
  obtain ⟨h1,h2,h3⟩:=h;refine ⟨h1,h2,fun hn=> ?_⟩;obtain ⟨cv,fr,ht,h4,h5,h6,h7⟩:=h3 hn;exact ⟨cv,fr,⟨by rw [hp hn];exact ht.1,ht.2⟩,h4,h5,fun i x hx=>let ⟨v,hv,hc,h1c⟩:=h6 i x hx;⟨v,hv,hc.mono hs hO hw,h1c⟩,h7⟩
 |box tb cs=>
  obtain ⟨h1,cv,fr,ht,h5,h6,h7⟩:=h;refine ⟨h1,cv,fr,⟨by rw [hp h1];exact ht.1,ht.2⟩,by rw [AV.killL_length];exact h5,fun i x hx=> ?_,h7⟩;obtain ⟨y,hy,rfl⟩:=AV.killL_get _ _ _ _ hx;obtain ⟨v,hv,hc,h1c⟩:=h6 i y hy;exact ⟨v,hv,hc.kill hβ hs hO hw,h1c⟩
 |map es=>
  obtain ⟨h1,ms,clock,h2,h3,h4,h5⟩:=h;refine ⟨h1,ms,clock,by rw [hp h1];exact h2,h3,fun i x e hx he=> ?_,h5⟩;obtain ⟨q1,q2,q3⟩:=h4 i x e hx he;exact ⟨q1.mono hs hO hw,q2.mono hs hO hw,q3⟩
 |siter sx pos=>exact ⟨h.1,by rw [hp h.1];exact h.2⟩
theorem HRel.blk_lt {F:Nat→Prop}{β:Emb}{H:List (Nat×AObj)}{w:World}(h:HRel F β H w){b:Nat}{p:Place}(hp:β b=some p)(hn:p.nil=false):p.blk<w.heap.size:=
 h.lt (.inr ⟨b,p,hp,hn,rfl⟩)
theorem SatB.newobj {c:Ctx}{s:St}{β:Emb}{a:Act}{w w':World}(hs:SatB c s β a w){b:Nat}(hb:hget s.H b=none)(p:Place)(hn:p.nil=false∨True)(hblk:p.nil=false→w.heap.size≤p.blk∧p.blk<w'.heap.size)
 (hbut:But w w' (fun _=>False)) {o:AObj} (ho:ORel c.F (upd β b p) w' p o):SatB c ⟨s.T,(b,o)::s.H,s.M⟩ (upd β b p) a w':=by
 have hfr:β b=none:=by
  cases h:β b with
  |none=>rfl
  |some q=>obtain ⟨ob,hob⟩:=hs.heap.dom b q h;rw [hb] at hob;cases hob
 have hβ: ∀ i q,β i=some q→upd β b p i=some q:=fun i q hq=>by
  have:b≠i:=fun e=>by subst e;rw [hfr] at hq;cases hq
  rw [upd_ne _ _ this];exact hq
 have hown: ∀ k,own (upd β b p) k→own β k∨w.heap.size≤k:=by
  rintro k ⟨i,q,hq,hqn,rfl⟩
  rcases Qu hq with ⟨rfl,rfl⟩|⟨_,hq⟩
  ·exact .inr (hblk hqn).1
  ·exact .inl ⟨i,q,hq,hqn,rfl⟩
 have hO: ∀ k,off c.F (upd β b p) k→off c.F β k∨w.heap.size≤k:=fun k hk=>hk.elim (fun h=> .inl (.inl h)) (fun h=>(hown k h).imp (fun h=> .inr h) id)
 have hw: ∀ k,k<w.heap.size→ ¬ off c.F β k→w'.heap[k]? =w.heap[k]? :=fun k hk _=>hbut.block k hk (fun h=>h)
 refine ⟨hs.defers,hs.size,⟨fun i ob hg=> ?_,fun i q hq=> ?_,fun i j q r hq hr hqn hrn hqr=> ?_,fun k hk=>Nat.lt_of_lt_of_le (hs.heap.fresh k hk) hbut.size,fun i q hq hqn=> ?_,hs.heap.glob.mono hbut.size hO hw⟩,fun i x hx=> ?_,?_,fun i q hq hm=>hβ i q (hs.stay i q hq hm)⟩
 ·rw [qd] at hg
  by_cases e:b=i
  ·rw [if_pos e] at hg;cases hg;subst e;exact ⟨p,ZD _ _ _,ho⟩
  ·rw [if_neg e] at hg
   obtain ⟨q,hq,hr⟩:=hs.heap.obj i ob hg;exact ⟨q,hβ i q hq,hr.carry hβ hbut.size hO hw (fun hqn=>hbut.block _ (hs.heap.blk_lt hq hqn) (fun h=>h))⟩
 ·rw [qd]
  rcases Qu hq with ⟨rfl,rfl⟩|⟨e,hq⟩
  ·exact ⟨o,if_pos rfl⟩
  ·rw [if_neg e];exact hs.heap.dom i q hq
 ·rcases Qu hq with ⟨e,rfl⟩|⟨e,hq'⟩<;>rcases Qu hr with ⟨e',rfl⟩|⟨e',hr'⟩
  ·exact e.symm.trans e'
  ·have:=hs.heap.blk_lt hr' hrn;have:=(hblk hqn).1;omega
  ·have:=hs.heap.blk_lt hq' hqn;have:=(hblk hrn).1;omega
  ·exact hs.heap.inj i j q r hq' hr' hqn hrn hqr
 ·rcases Qu hq with ⟨rfl,rfl⟩|⟨e,hq⟩
  ·intro hF;have:=hs.heap.fresh _ hF;have:=(hblk hqn).1;omega
  ·exact hs.heap.apart i q hq hqn
 ·obtain ⟨v,hv,hr⟩:=hs.slot i x hx;exact ⟨v,hv,hr.mono hβ hbut.size hO hw⟩
 ·exact hs.keeps.trans ⟨hbut.os,hbut.tape,hbut.output,hbut.size,fun k hk _=>hbut.block k hk (fun h=>h),hown⟩
theorem SatB.setobj {c:Ctx}{s:St}{β:Emb}{a:Act}{w w':World}(hs:SatB c s β a w){b:Nat}{p:Place}(hp:β b=some p)(hn:p.nil=false)(hbut:But w w' (· =p.blk)){o:AObj}(ho:ORel c.F β w' p o):
 SatB c ⟨s.T,hset s.H b o,s.M⟩ β a w':=by
 have hO: ∀ k,off c.F β k→off c.F β k∨w.heap.size≤k:=fun _ h=> .inl h
 have hw: ∀ k,k<w.heap.size→ ¬ off c.F β k→w'.heap[k]? =w.heap[k]? :=fun k hk hno=>hbut.block k hk (fun e=>hno (.inr ⟨b,p,hp,hn,e.symm⟩))
 refine ⟨hs.defers,hs.size,⟨fun i ob hg=> ?_,fun i q hq=> ?_,hs.heap.inj,fun k hk=>Nat.lt_of_lt_of_le (hs.heap.fresh k hk) hbut.size,hs.heap.apart,hs.heap.glob.mono hbut.size hO hw⟩,fun i x hx=> ?_,?_,hs.stay⟩
 ·rw [hget_hset] at hg
  by_cases e:b=i
  ·rw [if_pos e] at hg;cases hg;subst e;exact ⟨p,hp,ho⟩
  ·rw [if_neg e] at hg
   obtain ⟨q,hq,hr⟩:=hs.heap.obj i ob hg;refine ⟨q,hq,hr.carry (fun _ _ h=>h) hbut.size hO hw (fun hqn=>hbut.block _ (hs.heap.blk_lt hq hqn) (fun h=>e ?_))⟩;exact hs.heap.inj b i p q hp hq hn hqn h.symm
 ·rw [hget_hset]
  by_cases e:b=i
  ·exact ⟨o,if_pos e⟩
  ·rw [if_neg e];exact hs.heap.dom i q hq
 ·obtain ⟨v,hv,hr⟩:=hs.slot i x hx;exact ⟨v,hv,hr.mono (fun _ _ h=>h) hbut.size hO hw⟩
 ·exact hs.keeps.trans ⟨hbut.os,hbut.tape,hbut.output,hbut.size,fun k hk hno=>hbut.block k hk (fun e=>hno ⟨b,p,hp,hn,e.symm⟩),fun k hk=> .inl hk⟩
theorem SatB.replace {c:Ctx}{s:St}{β:Emb}{a:Act}{w w':World}(hs:SatB c s β a w){b:Nat}{p p':Place}(hp:β b=some p)(hblk:p'.nil=false→(p.nil=false∧p'.blk=p.blk)∨w.heap.size≤p'.blk)
 (hbut:But w w' (fun k=>p.nil=false∧k=p.blk)) {o:AObj} (ho:ORel c.F (upd β b p') w' p' o):SatB c ⟨killT b s.T,(b,o)::killH b s.H,b::s.M⟩ (upd β b p') a w':=by
 have hβ: ∀ i q,i≠b→β i=some q→upd β b p' i=some q:=fun i q hi hq=>by rw [upd_ne _ _ (Ne.symm hi)];exact hq
 have hown: ∀ k,own (upd β b p') k→own β k∨w.heap.size≤k:=by
  rintro k ⟨i,q,hq,hqn,rfl⟩
  rcases Qu hq with ⟨rfl,rfl⟩|⟨_,hq⟩
  ·rcases hblk hqn with ⟨h1,h2⟩|h
   ·exact .inl ⟨b,p,hp,h1,h2.symm⟩
   ·exact .inr h
  ·exact .inl ⟨i,q,hq,hqn,rfl⟩
 have hO: ∀ k,off c.F (upd β b p') k→off c.F β k∨w.heap.size≤k:=fun k hk=>hk.elim (fun h=> .inl (.inl h)) (fun h=>(hown k h).imp (fun h=> .inr h) id)
 have hw: ∀ k,k<w.heap.size→ ¬ off c.F β k→w'.heap[k]? =w.heap[k]? :=fun k hk hno=>hbut.block k hk (fun ⟨h1,h2⟩=>hno (.inr ⟨b,p,hp,h1,h2.symm⟩))
 refine ⟨hs.defers,hs.size,⟨fun i ob hg=> ?_,fun i q hq=> ?_,fun i j q r hq hr hqn hrn hqr=> ?_,fun k hk=>Nat.lt_of_lt_of_le (hs.heap.fresh k hk) hbut.size,fun i q hq hqn=> ?_,hs.heap.glob.mono hbut.size hO hw⟩,fun i x hx=> ?_,?_,fun i q hq hm=> ?_⟩
 ·rw [qd] at hg
  by_cases e:b=i
  ·rw [if_pos e] at hg;cases hg;subst e;exact ⟨p',ZD _ _ _,ho⟩
  ·rw [if_neg e,hget_killH,if_neg e,Option.map_eq_some_iff] at hg
   obtain ⟨ob,hg,rfl⟩:=hg;obtain ⟨q,hq,hr⟩:=hs.heap.obj i ob hg;refine ⟨q,hβ i q (Ne.symm e) hq,hr.carryKill hβ hbut.size hO hw (fun hqn=>hbut.block _ (hs.heap.blk_lt hq hqn) (fun ⟨h1,h2⟩=>e ?_))⟩;exact hs.heap.inj b i p q hp hq h1 hqn h2.symm
 ·rw [qd]
  rcases Qu hq with ⟨rfl,rfl⟩|⟨e,hq⟩
  ·exact ⟨o,if_pos rfl⟩
  ·rw [if_neg e,hget_killH,if_neg e]
   obtain ⟨ob,hob⟩:=hs.heap.dom i q hq;exact ⟨ob.kill b,by rw [hob];rfl⟩
 ·have hcase: ∀ {i:Nat} {q:Place},b≠i→β i=some q→q.nil=false→p'.nil=false→p'.blk≠q.blk:=fun {i q} e hq hqn hpn h=>by
   rcases hblk hpn with ⟨h1,h2⟩|h3
   ·exact e (hs.heap.inj b i p q hp hq h1 hqn (h2.symm.trans h))
   ·have:=hs.heap.blk_lt hq hqn;omega
  rcases Qu hq with ⟨e,rfl⟩|⟨e,hq'⟩<;>rcases Qu hr with ⟨e',rfl⟩|⟨e',hr'⟩
  ·exact e.symm.trans e'
  ·exact (hcase e' hr' hrn hqn hqr).elim
  ·exact (hcase e hq' hqn hrn hqr.symm).elim
  ·exact hs.heap.inj i j q r hq' hr' hqn hrn hqr
 ·rcases Qu hq with ⟨rfl,rfl⟩|⟨e,hq⟩
  ·intro hF
   rcases hblk hqn with ⟨h1,h2⟩|h
   ·exact hs.heap.apart b p hp h1 (h2 ▸ hF)
   ·have:=hs.heap.fresh _ hF;omega
  ·exact hs.heap.apart i q hq hqn
 ·rw [get_killT,Option.map_eq_some_iff] at hx
  obtain ⟨y,hy,rfl⟩:=hx;obtain ⟨v,hv,hr⟩:=hs.slot i y hy;exact ⟨v,hv,hr.kill hβ hbut.size hO hw⟩
 ·exact hs.keeps.trans ⟨hbut.os,hbut.tape,hbut.output,hbut.size,fun k hk hno=>hbut.block k hk (fun ⟨h1,h2⟩=>hno ⟨b,p,hp,h1,h2.symm⟩),hown⟩
 ·rw [mem_cons,Bool.or_eq_false_iff,decide_eq_false_iff_not] at hm
  exact hβ i q (Ne.symm hm.1) (hs.stay i q hq hm.2)
end Go.Abs
set_option linter.unusedVariables false
set_option linter.unusedSimpArgs false
namespace Go.Abs
open Go
variable [GTab]
def one:AV→Bool
 | .pl v=>v.oneCell'
 | .agg _=>false
 | .tup _=>false
 | .gone=>false
 |_=>true
def allOne:List AV→Bool
 |[]=>true
 |x::r=>one x&&allOne r
def cellsA:AV→List AV
 | .agg cs=>cs
 |x=>[x]
def fit:AV→Bool
 | .agg cs=>allOne cs
 |x=>one x
theorem allOne_get: ∀ {l:List AV} (h:allOne l=true) {i:Nat} {x:AV},l[i]? =some x→one x=true
 |[],_,i,x,hx=>by simp at hx
 |y::r,h,0,x,hx=>by simp [allOne] at h hx;subst hx;exact h.1
 |y::r,h,i+1,x,hx=>by simp [allOne] at h hx;exact allOne_get h.2 hx
theorem one_spec {F:Nat→Prop}{β:Emb}{w:World}{x:AV}{v:Value}(h:VRel F β w x v)(h1:one x=true):v.oneCell'=true:=by
 cases h with
 |c h=>cases h with
  |pl v=>exact h1
  |agg _ _=>cases h1
  |tup _ _=>cases h1
  |fn _ _ _ _=>rfl
  |ifc _=>rfl
  |vptr _ _ _ _ _=>rfl
  |vnil=>rfl
  |vs0=>rfl
  |vs _ _ _ _ _ _=>rfl
  |vm0=>rfl
  |vm _ _ _ _ _ _ _ _ _ _ _=>rfl
 |agg _ _=>cases h1
 |tup _ _=>cases h1
 |fn _ _ _ _=>rfl
 |ifc _=>rfl
 |ptr _ _=>rfl
 |pnil=>rfl
 |sl _ _ _ _=>rfl
 |slz _ _=>rfl
 |mp _ _=>rfl
 |it _ _=>rfl
 |anyp=>rfl
 |junk h=>exact h
 |gone=>cases h1
theorem cells_of_one {v:Value}(h:v.oneCell'=true):v.cells= #[v]:=by cases v<;>first|rfl|cases h
theorem VRel.cells {F:Nat→Prop}{β:Emb}{w:World}{x:AV}{v:Value}(h:VRel F β w x v)(hf:fit x=true):
 (cellsA x).length=v.cells.size∧ ∀ (i:Nat) (y:AV),(cellsA x)[i]? =some y→ ∃ u,v.cells[i]? =some u∧VRel F β w y u∧u.oneCell'=true:=by
 by_cases hx: ∃ cs,x= .agg cs
 ·obtain ⟨cs,rfl⟩:=hx;obtain ⟨vs,rfl,hl,h2⟩:=h.agg_inv;exact ⟨hl,fun i y hy=>let ⟨u,hu,hr⟩:=h2 i y hy;⟨u,hu,hr,one_spec hr (allOne_get hf hy)⟩⟩
 ·have h1:one x=true:=by cases x<;>first|exact hf|exact (hx ⟨_,rfl⟩).elim
  have hv:=one_spec h h1
  have hc:cellsA x=[x]:=by cases x<;>first|rfl|exact (hx ⟨_,rfl⟩).elim
  rw [hc,cells_of_one hv]
  refine ⟨rfl,fun i y hy=> ?_⟩
  cases i with
  |zero=>simp at hy;subst hy;exact ⟨v,rfl,h,hv⟩
  |succ i=>simp at hy
def EOp (c:Ctx)(o:Oper)(s s':St):Prop:=
 ∀ a w β,SatB c s β a w→ ∃ w' β',(∃ v,(execOp a.eval o).run c.P w= .ok (.value v) w'∧SatB c s' β' (a.put o.dst v) w')∨((execOp a.eval o).run c.P w= .ok .skip w'∧SatB c s' β' (a.put o.dst undef) w')
def EOpB (c:Ctx)(o:Oper)(s s':St):Prop:=
 ∀ a w β,SatB c s β a w→ ∃ w' β',RowKit.Below w.heap.size w w'∧ ∃ v,(execOp a.eval o).run c.P w= .ok (.value v) w'∧SatB c s' β' (a.put o.dst v) w'
theorem EOpB.e {c:Ctx}{o:Oper}{s s':St}(h:EOpB c o s s'):EOp c o s s':=fun a w β hs=>let ⟨w',β',_,v,h1,h2⟩:=h a w β hs;⟨w',β',.inl ⟨v,h1,h2⟩⟩
theorem Zv (w:World)(o:Obj):RowKit.Below w.heap.size w (w.alloc o):=⟨rfl,rfl,rfl,by simp,fun k' hk'=>RowKit.Below.heap_alloc _ _ _ hk'⟩
section
variable {c:Ctx} {Q:Exit→Act→World→Prop} {s s':St} {ops:Array Oper} {rest:List Oper} {o:Oper}
theorem Jd (h:EOp c o s s')(hg:o.guard=none)(hr:RunL c ops Q rest s'):RunL c ops Q (o::rest) s:=by
 rintro a w ⟨β,hs⟩
 obtain ⟨w',β',⟨v,hrun,hs'⟩|⟨hrun,hs'⟩⟩:=h a w β hs
 ·refine wpList_plain hg fun K hK=> ?_;unfold Oper.wp
  rw [hrun,Oper.upon_value]
  exact hK _ _ (hr _ _ ⟨β',hs'⟩)
 ·refine wpList_plain hg fun K hK=> ?_;unfold Oper.wp
  rw [hrun,Oper.upon_skip]
  exact hK _ _ (hr _ _ ⟨β',hs'⟩)
end
theorem But.alloc (w:World)(o:Obj):But w (w.alloc o) (fun _=>False):=
 ⟨rfl,⟨rfl,Nat.le_refl _⟩,rfl,by simp,fun k hk _=>RowKit.Below.heap_alloc _ _ _ hk⟩
theorem qJ (w:World)(o:Obj):(w.alloc o).heap[w.heap.size]? =some o:=by
 show (w.heap.push o)[w.heap.size]? =some o
 simp
def nm:Option Tmp→Nat
 |some d=>1000+d
 |none=>999
theorem SatB.newbox {c:Ctx}{s:St}{β:Emb}{a:Act}{w:World}(hs:SatB c s β a w){b:Nat}(hb:hget s.H b=none)(cells:Array Value)(e:TypeId){cs:List AV}(hl:cs.length=cells.size)
 (h: ∀ (i:Nat) (y:AV),cs[i]? =some y→ ∃ u,cells[i]? =some u∧VRel c.F β w y u∧u.oneCell'=true):
 ∃ β',SatB c ⟨s.T,(b,.box e cs)::s.H,s.M⟩ β' a (w.alloc (.cells cells e))∧VRel c.F β' (w.alloc (.cells cells e)) (.ptr b 0) (.pointer (some ⟨w.heap.size,0,none⟩)):=by
 let p:Place:=⟨w.heap.size,0,cells.size,0,false⟩
 have hfr:β b=none:=by
  cases h:β b with
  |none=>rfl
  |some q=>obtain ⟨ob,hob⟩:=hs.heap.dom b q h;rw [hb] at hob;cases hob
 have hβ: ∀ i q,β i=some q→upd β b p i=some q:=fun i q hq=>by
  have:b≠i:=fun e=>by subst e;rw [hfr] at hq;cases hq
  rw [upd_ne _ _ this];exact hq
 have hO: ∀ k,off c.F (upd β b p) k→off c.F β k∨w.heap.size≤k:=by
  rintro k (hk|⟨i,q,hq,hqn,rfl⟩)
  ·exact .inl (.inl hk)
  ·rcases Qu hq with ⟨rfl,rfl⟩|⟨_,hq⟩
   ·exact .inr (Nat.le_refl _)
   ·exact .inl (.inr ⟨i,q,hq,hqn,rfl⟩)
 refine ⟨upd β b p,hs.newobj hb p (.inl rfl) (fun _=>⟨Nat.le_refl _,by simp [p]⟩) (But.alloc _ _) ?_,?_⟩
 ·refine ⟨rfl,cells,(0,0),⟨qJ _ _,fun _=>Nat.zero_le _⟩,by simp [p,hl],fun i y hy=> ?_,fun o _ _ h=>by simp at h⟩;obtain ⟨u,hu,hr,h1⟩:=h i y hy;exact ⟨u,by simp [p,hu],hr.mono hβ (by simp) hO (fun k hk _=>RowKit.Below.heap_alloc _ _ _ hk),h1⟩
 ·exact .ptr (p:=p) (ZD _ _ _) rfl
section
variable {c:Ctx} {s:St} {d:Option Tmp} {ty:TypeId} {pos:String} {af:Array Edge} {g:Option (Nat×Bool)}
theorem e_alloc {t:TypeId}{ti:TI}{cs:List AV}(ht:tget c.U t=some ti)(hcs:cellsA (ofVal ti.zero)=cs)(hf:fit (ofVal ti.zero)=true)(hb:hget s.H (nm d)=none)(hd:dstOk c.N d=true):
 EOpB c ⟨d,.alloc t,ty,pos,af,g⟩ s ⟨putT s.T d (.ptr (nm d) 0),(nm d,.box t cs)::s.H,s.M⟩:=by
 intro a w β hs
 have hz:VRel c.F β w (ofVal ti.zero) ti.zero:= .c (CRel.ofVal _ _ _)
 obtain ⟨hl,h⟩:=hz.cells hf
 subst hcs
 obtain ⟨β',hs',hr⟩:=hs.newbox hb ti.zero.cells t hl h;refine ⟨_,β',Zv _ _,_,?_,hs'.put hd hr⟩
 simp [execOp,Instr.alloc,ty_zero ht,newVar,newRow]
theorem e_box {t:TypeId}{x:Operand}{ax:AV}{cs:List AV}(hx:opv s.T x=some ax)(hcs:cellsA ax=cs)(hf:fit ax=true)(hb:hget s.H (nm d)=none)(hd:dstOk c.N d=true):
 EOpB c ⟨d,.box t x,ty,pos,af,g⟩ s ⟨putT s.T d (.ptr (nm d) 0),(nm d,.box t cs)::s.H,s.M⟩:=by
 intro a w β hs
 obtain ⟨hl,h⟩:=(hs.op hx).cells hf
 subst hcs
 obtain ⟨β',hs',hr⟩:=hs.newbox hb (a.eval x).cells t hl h;refine ⟨_,β',Zv _ _,_,?_,hs'.put hd hr⟩
 simp [execOp,Instr.box,newVar,newRow]
end
def wr:Array Value→Nat→List Value→Array Value
 |c,_,[]=>c
 |c,o,v::r=>wr (c.setIfInBounds o v) (o+1) r
theorem qS: ∀ (vs:List Value) (c:Array Value) (o:Nat),(wr c o vs).size=c.size
 |[],_,_=>rfl
 |v::r,c,o=>by rw [wr,qS r];simp
theorem wr_get: ∀ (vs:List Value) (c:Array Value) (o i:Nat),o+vs.length≤c.size→(wr c o vs)[i]? =if o≤i∧i<o+vs.length then vs[i-o]? else c[i]?
 |[],c,o,i,h=>by
  rw [wr,if_neg]
  simp only [List.length_nil]
  omega
 |v::r,c,o,i,h=>by
  simp only [List.length_cons] at h
  rw [wr,wr_get r _ _ _ (by simp;omega)]
  by_cases h1:o=i
  ·subst h1
   rw [if_neg (by omega),if_pos (by simp),Array.getElem?_setIfInBounds_self_of_lt (by omega)]
   simp
  ·by_cases h2:o+1≤i∧i<o+1+r.length
   ·rw [if_pos h2,if_pos (by simp;omega),show i-o=(i-(o+1))+1 by omega,List.getElem?_cons_succ]
   ·rw [if_neg h2,if_neg (by simp;omega),Array.getElem?_setIfInBounds_ne h1]
theorem heap_setCells (b:Nat): ∀ (vs:List Value) (o:Nat) (w:World) (c:Array Value) (t:TypeId) (fr:Nat×Nat),w.heap[b]? =some (.cells c t fr)→(w.setCells b o vs).heap[b]? =some (.cells (wr c o vs) t fr)
 |[],_,_,_,_,_,h=>h
 |v::r,o,w,c,t,fr,h=>by
  rw [World.setCells,wr]
  refine heap_setCells b r (o+1) _ _ t fr ?_
  simp only [World.setCell,Array.getElem?_modify,if_pos,h]
  simp
theorem But.setCells (b:Nat): ∀ (vs:List Value) (o:Nat) (w:World),But w (w.setCells b o vs) (· =b)
 |[],_,w=>⟨rfl,⟨rfl,Nat.le_refl _⟩,rfl,Nat.le_refl _,fun _ _ _=>rfl⟩
 |v::r,o,w=>by
  have h:=But.setCells b r (o+1) (w.setCell ⟨b,o,none⟩ v)
  rw [World.setCells]
  refine ⟨h.os,h.tape,h.output,by have:=h.size;simpa using this,fun k hk hne=>(h.block k (by simpa using hk) hne).trans (RowKit.Below.heap_setCell _ _ _ _ hne)⟩
def updL (cs:List AV)(o:Nat)(es:List AV):List AV:=cs.take o++(es++cs.drop (o+es.length))
theorem updL_length {cs:List AV}{o:Nat}{es:List AV}(h:o+es.length≤cs.length):(updL cs o es).length=cs.length:=by
 simp [updL];omega
theorem updL_get {cs:List AV}{o:Nat}{es:List AV}(h:o+es.length≤cs.length)(i:Nat):(updL cs o es)[i]? =if o≤i∧i<o+es.length then es[i-o]? else cs[i]? :=by
 unfold updL
 by_cases h1:i<o
 ·rw [List.getElem?_append_left (by simp;omega),if_neg (by omega),List.getElem?_take_of_lt h1]
 ·rw [List.getElem?_append_right (by simp;omega)]
  simp only [List.length_take,Nat.min_eq_left (show o≤cs.length by omega)]
  by_cases h2:i<o+es.length
  ·rw [if_pos ⟨by omega,h2⟩,List.getElem?_append_left (by omega)]
  ·rw [if_neg (by omega),List.getElem?_append_right (by omega),List.getElem?_drop]
   congr 1;omega
theorem zaa {w:World}{b:Nat}{t:TypeId}{c:Array Value}{fr:Nat×Nat}(o:Nat)(vs:List Value)(h:CellsAt w b t c fr):CellsAt (w.setCells b o vs) b t (wr c o vs) fr:=
 ⟨heap_setCells _ _ _ _ _ _ _ h.1,fun hv=>by rw [qS];exact h.2 hv⟩
theorem run_storeVar {P:Program}{w:World}{blk o:Nat}{c:Array Value}{fr:Nat×Nat}{te:TypeId}(hc:CellsAt w blk te c fr){t:TypeId}{n:Nat}(hn:(sizeOf t).run P w= .ok n w){v:Value}(hv:v.cells.size=n)
 (h1: ∀ u∈v.cells.toList,u.oneCell'=true) (hfit:o+n≤c.size) (hfr: ∀ i,o≤i→i<o+n→fr.1≤i→ ¬ i<fr.2):
 (storeVar t ⟨blk,o,none⟩ v).run P w= .ok () (w.setCells blk o v.cells.toList):=by
 have ht:w.heap[blk]? =some (.cells c te fr):=hc.1
 have hlen:v.cells.toList.length=n:=by simp [hv]
 have:=run_storeCells_cells (P:=P) blk o v.cells.toList 0 w (fun j hj=>by
  rw [hlen] at hj
  simp [World.cell?,ht]
  omega) (fun j hj=>by
  rw [hlen] at hj
  have:=hfr (o+0+j) (by omega) (by omega)
  obtain ⟨lo,hi⟩:=fr
  simp only [World.frozen?,ht]
  simp only at this
  simp only [Nat.add_zero] at this
  simp only [Nat.add_zero,Bool.and_eq_false_iff,decide_eq_false_iff_not]
  by_cases q:lo≤o+j
  ·exact .inr (this q)
  ·exact .inl q) h1
 simp only [Nat.add_zero] at this
 unfold storeVar
 simp only [Sem.run_bind,hn,Result.andThen_ok,hv,ne_eq,not_true,if_false,this]
section
variable {c:Ctx} {s:St} {d:Option Tmp} {ty:TypeId} {pos:String} {af:Array Edge} {g:Option (Nat×Bool)}
theorem mem_toList_get {l:Array Value}{u:Value}(h:u∈l.toList): ∃ i:Nat,l[i]? =some u:=by
 obtain ⟨i,hi⟩:=List.mem_iff_getElem?.1 h;exact ⟨i,by simpa using hi⟩
theorem e_store_box {tb:TypeId}{t:TypeId}{x y:Operand}{b o:Nat}{ay:AV}{cs es:List AV}{ti:TI}(ht:tget c.U t=some ti)(hx:opv s.T x=some (.ptr b o))(hy:opv s.T y=some ay)(hes:cellsA ay=es)(hf:fit ay=true)(hl:es.length=ti.size)
 (hb:hget s.H b=some (.box tb cs)) (hin:Nat.ble (o+es.length) cs.length=true) (hd:d=none):EOp c ⟨d,.store t x y,ty,pos,af,g⟩ s ⟨s.T,hset s.H b (.box tb (updL cs o es)),s.M⟩:=by
 intro a w β hs
 subst hd
 have hin:=Nat.le_of_ble_eq_true hin
 obtain ⟨p,hp,hn,hv⟩:=(hs.op hx).ptr_inv;obtain ⟨p',hp',hr⟩:=hs.heap.obj b _ hb
 rw [hp] at hp';cases hp'
 obtain ⟨_,cv,fr,hcv,h5,h6,h7⟩:=hr;obtain ⟨hl2,hcells⟩:=(hs.op hy).cells hf
 rw [hes] at hl2 hcells
 have h1: ∀ u∈(a.eval y).cells.toList,u.oneCell'=true:=fun u hu=>by
  obtain ⟨i,hi⟩:=mem_toList_get hu
  have hi':i<es.length:=by rw [hl2];exact (Array.getElem?_eq_some_iff.1 hi).1
  obtain ⟨u',hu',_,h1⟩:=hcells i es[i] (by simp [hi'])
  rw [hi] at hu';cases hu';exact h1
 have hrun:=run_storeVar (P:=c.P) hcv (QS ht w) (v:=a.eval y) (o:=p.st+o) (by rw [←hl2,hl]) h1 (by omega) (fun i h1 h2 h3=>h7 i (by omega) h3)
 have hbut:=But.setCells p.blk (a.eval y).cells.toList (p.st+o) w
 have hc':CellsAt (w.setCells p.blk (p.st+o) (a.eval y).cells.toList) p.blk tb (wr cv (p.st+o) (a.eval y).cells.toList) fr:=by
  exact zaa _ _ hcv
 have hw: ∀ k,k<w.heap.size→ ¬ off c.F β k→(w.setCells p.blk (p.st+o) (a.eval y).cells.toList).heap[k]? =w.heap[k]? :=fun k hk hno=>hbut.block k hk (fun e=>hno (.inr ⟨b,p,hp,hn,e.symm⟩))
 refine ⟨w.setCells p.blk (p.st+o) (a.eval y).cells.toList,β,.inr ⟨?_,?_⟩⟩
 ·simp [execOp,hv,Instr.storeAt,Instr.sureAddr,hrun]
 ·refine hs.setobj hp hn hbut ⟨hn,_,fr,hc',by rw [updL_length hin,qS];exact h5,fun i z hz=> ?_,fun o' ho'=>h7 o' (by rw [qS] at ho';exact ho')⟩
  rw [updL_get hin] at hz
  rw [wr_get _ _ _ _ (by simp only [Array.length_toList];omega)]
  simp only [Array.length_toList]
  by_cases hi:o≤i∧i<o+es.length
  ·rw [if_pos hi] at hz
   obtain ⟨u,hu,hr,h1u⟩:=hcells _ z hz;refine ⟨u,?_,hr.mono (fun _ _ h=>h) hbut.size (fun _ h=> .inl h) hw,h1u⟩
   rw [if_pos (by omega),show p.st+i-(p.st+o)=i-o by omega]
   simpa using hu
  ·rw [if_neg hi] at hz
   obtain ⟨u,hu,hr,h1u⟩:=h6 i z hz;exact ⟨u,by rw [if_neg (by omega)];exact hu,hr.mono (fun _ _ h=>h) hbut.size (fun _ h=> .inl h) hw,h1u⟩
theorem e_store_row {te:TypeId}{t:TypeId}{x y:Operand}{b o k fz:Nat}{ay:AV}{cs es:List AV}{ti:TI}(ht:tget c.U t=some ti)(hx:opv s.T x=some (.ptr b o))(hy:opv s.T y=some ay)(hes:cellsA ay=es)(hf:fit ay=true)(hl:es.length=ti.size)
 (hcl:AV.closedL es=true) (hb:hget s.H b=some (.row te k fz cs)) (hfz:fz≤o) (hin:o+es.length≤cs.length) (hpos:0<ti.size) (hd:d=none):EOp c ⟨d,.store t x y,ty,pos,af,g⟩ s ⟨s.T,hset s.H b (.row te k fz (updL cs o es)),s.M⟩:=by
 intro a w β hs
 subst hd
 obtain ⟨p,hp,hn,hv⟩:=(hs.op hx).ptr_inv;obtain ⟨p',hp',hr⟩:=hs.heap.obj b _ hb
 rw [hp] at hp';cases hp'
 obtain ⟨hk,hnil,hr⟩:=hr;obtain ⟨cv,fr,hcv,hlim,h5,h6,h7⟩:=hr hn;obtain ⟨hl2,hcells⟩:=(hs.op hy).cells hf
 rw [hes] at hl2 hcells
 have h1: ∀ u∈(a.eval y).cells.toList,u.oneCell'=true:=fun u hu=>by
  obtain ⟨i,hi⟩:=mem_toList_get hu
  have hi':i<es.length:=by rw [hl2];exact (Array.getElem?_eq_some_iff.1 hi).1
  obtain ⟨u',hu',_,h1⟩:=hcells i es[i] (by simp [hi'])
  rw [hi] at hu';cases hu';exact h1
 have hrun:=run_storeVar (P:=c.P) hcv (QS ht w) (v:=a.eval y) (o:=p.st+o) (by rw [←hl2,hl]) h1 (by omega) (fun i h1 h2 h3 h4=>by have:=h7 i (by omega) h3 h4;omega)
 have hbut:=But.setCells p.blk (a.eval y).cells.toList (p.st+o) w
 have hc':CellsAt (w.setCells p.blk (p.st+o) (a.eval y).cells.toList) p.blk te (wr cv (p.st+o) (a.eval y).cells.toList) fr:=by
  exact zaa _ _ hcv
 have hw: ∀ k,k<w.heap.size→ ¬ off c.F β k→(w.setCells p.blk (p.st+o) (a.eval y).cells.toList).heap[k]? =w.heap[k]? :=fun k hk hno=>hbut.block k hk (fun e=>hno (.inr ⟨b,p,hp,hn,e.symm⟩))
 refine ⟨w.setCells p.blk (p.st+o) (a.eval y).cells.toList,β,.inr ⟨?_,?_⟩⟩
 ·simp [execOp,hv,Instr.storeAt,Instr.sureAddr,hrun]
 ·refine hs.setobj hp hn hbut ⟨hk,fun h=>(by rw [hn] at h;cases h),fun _=>⟨_,fr,hc',by rw [qS];exact hlim,by rw [updL_length hin,qS];exact h5,fun i z hz=> ?_,fun o' ho'=>h7 o' (by rw [qS] at ho';exact ho')⟩⟩
  rw [updL_get hin] at hz
  rw [wr_get _ _ _ _ (by simp only [Array.length_toList];omega)]
  simp only [Array.length_toList]
  by_cases hi:o≤i∧i<o+es.length
  ·rw [if_pos hi] at hz
   obtain ⟨u,hu,hr,h1u⟩:=hcells _ z hz;refine ⟨u,?_,(hr.closed (AV.closedL_get hcl hz)).mono hbut.size (fun _ h=> .inl h) hw,h1u⟩
   rw [if_pos (by omega),show p.st+i-(p.st+o)=i-o by omega]
   simpa using hu
  ·rw [if_neg hi] at hz
   obtain ⟨u,hu,hr,h1u⟩:=h6 i z hz;exact ⟨u,by rw [if_neg (by omega)];exact hu,hr.mono hbut.size (fun _ h=> .inl h) hw,h1u⟩
end
end Go.Abs
set_option linter.unusedVariables false
set_option linter.unusedSimpArgs false
namespace Go.Abs
open Go
variable [GTab]
def srcAt (H:List (Nat×AObj))(k:Nat):AV→Option (Nat×List AV)
 | .vs m ds=>some (m,ds)
 | .sl b o m=>match hget H b with
  |some (.row _ _ _ cs)=>some (m,(cs.drop o).take (m*k))
  |_=>none
 | .pl (.slice none 0 0)=>some (0,[])
 |_=>none
theorem SatB.src {c:Ctx}{s:St}{β:Emb}{a:Act}{w:World}(hs:SatB c s β a w){x:AV}{v:Value}(hv:VRel c.F β w x v){k m:Nat}{ds:List AV}(hsrc:srcAt s.H k x=some (m,ds))(hds:ds.length=m*k):
 ∃ (A:Option Addr) (cap:Nat) (news:List Value),v= .slice A m cap∧(0<m→ ∃ ad,A=some ad)∧news.length=m*k∧(∀ ad,A=some ad→ ∀ (j:Nat) (u:Value),news[j]? =some u→w.cell? (ad.add j)=some u)∧
  (∀ u∈news,u.oneCell'=true)∧ ∀ (i:Nat) (y:AV),ds[i]? =some y→ ∃ u,news[i]? =some u∧CRel (off c.F β) w y u:=by
 have build: ∀ (blk o:Nat),(∀ (i:Nat) (y:AV),ds[i]? =some y→ ∃ u,w.cell? ⟨blk,o+i,none⟩=some u∧CRel (off c.F β) w y u∧u.oneCell'=true)→
  ∃ news:List Value,news.length=m*k∧(∀ (j:Nat) (u:Value),news[j]? =some u→w.cell? ((⟨blk,o,none⟩:Addr).add j)=some u)∧(∀ u∈news,u.oneCell'=true)∧ ∀ (i:Nat) (y:AV),ds[i]? =some y→ ∃ u,news[i]? =some u∧CRel (off c.F β) w y u:=by
  intro blk o h
  have hg: ∀ i,i<ds.length→ ∃ u,w.cell? ⟨blk,o+i,none⟩=some u∧CRel (off c.F β) w ds[i]! u∧u.oneCell'=true:=fun i hi=>h i _ (by simp [hi])
  refine ⟨(List.range ds.length).map fun i=>(w.cell? ⟨blk,o+i,none⟩).getD undef,by simp [hds],fun j u hj=> ?_,fun u hu=> ?_,fun i y hy=> ?_⟩
  ·have hjl:j<ds.length:=by have:=(List.getElem?_eq_some_iff.1 hj).1;simpa using this
   obtain ⟨u',hu',_⟩:=hg j hjl
   simp [hjl,hu'] at hj
   rw [a_add,hu',hj]
  ·simp only [List.mem_map,List.mem_range] at hu
   obtain ⟨i,hi,rfl⟩:=hu;obtain ⟨u',hu',_,h1⟩:=hg i hi
   rw [hu'];exact h1
  ·obtain ⟨u,hu,hr,_⟩:=h i y hy
   have hi:=(List.getElem?_eq_some_iff.1 hy).1
   exact ⟨u,by simp [hi,hu],hr⟩
 cases x with
 |vs m' ds'=>
  simp only [srcAt,Option.some.injEq,Prod.mk.injEq] at hsrc
  obtain ⟨rfl,rfl⟩:=hsrc;obtain ⟨A,cap,rfl,_,h⟩:=hv.vs_inv
  rcases h with rfl|⟨blk,o,rfl,_,_,h⟩
  ·obtain rfl:=List.eq_nil_of_length_eq_zero (l:=ds') (by simpa using hds);exact ⟨A,cap,[],rfl,fun h=>by omega,by simp,by simp,by simp,by simp⟩
  ·obtain ⟨news,h1,h2,h3,h4⟩:=build blk o h;exact ⟨_,cap,news,rfl,fun _=>⟨_,rfl⟩,h1,fun ad had=>by cases had;exact h2,h3,h4⟩
 |sl b o m'=>
  simp only [srcAt] at hsrc
  split at hsrc
  ·rename_i k' fz cs hg
   simp only [Option.some.injEq,Prod.mk.injEq] at hsrc
   obtain ⟨rfl,rfl⟩:=hsrc;obtain ⟨p,hp,h⟩:=hv.sl_inv;obtain ⟨p',hp',hr⟩:=hs.heap.obj b _ hg
   rw [hp] at hp';cases hp'
   obtain ⟨_,hnil,hr⟩:=hr
   rcases h with ⟨hn,cap,rfl,_,_⟩|⟨rfl,A0,rfl⟩
   ·obtain ⟨cv,fr,hcv,_,_,h6,_⟩:=hr hn
    obtain ⟨news,h1,h2,h3,h4⟩:=build p.blk (p.st+o) (fun i y hy=>by
     have hi:i<m'*k:=by rw [←hds];exact (List.getElem?_eq_some_iff.1 hy).1
     rw [List.getElem?_take_of_lt hi,List.getElem?_drop] at hy
     obtain ⟨u,hu,hc,h1⟩:=h6 _ y hy
     exact ⟨u,by rw [Zi hcv,Nat.add_assoc];exact hu,hc,h1⟩)
    exact ⟨_,cap,news,rfl,fun _=>⟨_,rfl⟩,h1,fun ad had=>by cases had;exact h2,h3,h4⟩
   ·exact ⟨A0,0,[],rfl,fun h=>by omega,by simp,by simp,by simp,by simp⟩
  ·cases hsrc
 |pl u=>
  obtain rfl:=hv.pl_eq;unfold srcAt at hsrc
  split at hsrc
  all_goals first
   |(cases hsrc;done)
   |(rename_i heq;cases heq;done)
   |skip
  rename_i heq
  cases heq
  simp only [Option.some.injEq,Prod.mk.injEq] at hsrc
  obtain ⟨rfl,rfl⟩:=hsrc;exact ⟨none,0,[],rfl,fun h=>by omega,by simp,by simp,by simp,by simp⟩
 |_=>simp [srcAt] at hsrc
structure Behind (P:Program) (w:World) (t2:TypeId) (k m:Nat) (news:List Value) (v2:Value):Prop where
 ty: ∃ d2,P.underlying t2=some d2∧ ∀ q,d2≠ .int q
 len: ∀ w':World,(Builtin.lenOf v2).run P w'= .ok m w'
 first: ∀ w':World,w'.heap=w.heap→(Builtin.firstCells k m v2).run P w'= .ok news.toArray w'
theorem zeros_no {d2:TypeDesc}(h: ∀ q,d2≠ .int q):(d2 matches .int _)=false:=by
 cases d2<;>first|rfl|exact absurd rfl (h _)
theorem run_append_in {P:Program}{w w':World}{t t2 ty e:TypeId}{i:TypeInfo}(ht:P.underlying t=some (.slice e))(hi:P.info? e=some i)(blk o sLen sCap:Nat)(m:Nat)(news:List Value){v2:Value}
 (hB:Behind P w t2 i.size m news v2) (hroom:sLen+m≤sCap) (hst:(storeCells ⟨blk,o+sLen*i.size,none⟩ news 0).run P w= .ok () w'):
 (Builtin.append_ #[t,t2] ty #[.slice (some ⟨blk,o,none⟩) sLen sCap,v2]).run P w= .ok (.slice (some ⟨blk,o,none⟩) (sLen+m) sCap) w':=by
 obtain ⟨⟨d2,hd2,hn2⟩,hlen,hf⟩:=hB
 have hz:=zeros_no hn2
 simp only [Builtin.append_,List.getElem?_toArray,List.getElem?_cons_zero,List.getElem?_cons_succ]
 simp [run_underlying ht,run_underlying hd2,hz,sizeOf,typeInfo,hi,hlen,hroom,hf w rfl,a_add,hst]
theorem run_append_nil0 {P:Program}{w:World}{t t2 ty e:TypeId}{i:TypeInfo}(ht:P.underlying t=some (.slice e))(hi:P.info? e=some i)(A0:Option Addr){v2:Value}
 (hB:Behind P w t2 i.size 0 [] v2):
 (Builtin.append_ #[t,t2] ty #[.slice A0 0 0,v2]).run P w= .ok (.slice A0 0 0) w:=by
 obtain ⟨⟨d2,hd2,hn2⟩,hlen,hf⟩:=hB
 have hz:=zeros_no hn2
 cases A0<;>simp [Builtin.append_,run_underlying ht,run_underlying hd2,hz,sizeOf,typeInfo,hi,hlen,hf w rfl,storeCells]
theorem run_app_grow {P:Program}(w:World)(t t2 ty e:TypeId)(i:TypeInfo)(z:Value)(ht:P.underlying t=some (.slice e))(hi:P.info? e=some i)(hz:i.zero=some z)
 (A0:Option Addr) (sLen sCap:Nat) (olds:List Value) (hold:(Builtin.firstCells i.size sLen (.slice A0 sLen sCap)).run P w.drew= .ok olds.toArray w.drew)
 (n:Nat) (news:List Value) {v2:Value} (hB:Behind P w t2 i.size n news v2)
 (hg:sCap<sLen+n) (h63:((sLen+n:Nat):Int)≤9223372036854775807) (hfit:Builtin.nextslicecap (sLen+n) sCap*i.bytes≤281474976710656):
 (Builtin.append_ #[t,t2] ty #[.slice A0 sLen sCap,v2]).run P w=
  .ok (.slice (some ⟨w.heap.size,0,none⟩) (sLen+n) (grownCap w (sLen+n) sCap e))
   (w.drew.alloc (.cells (olds.toArray++news.toArray++Builtin.zeroCells z.cells (grownCap w (sLen+n) sCap e-(sLen+n))) e)):=by
 obtain ⟨⟨d2,hd2,hn2⟩,hlen,hf⟩:=hB
 have hz2:=zeros_no hn2
 have hn: ¬ (sLen+n≤sCap):=by omega
 have h63': ¬ (9223372036854775807<((sLen:Int)+(n:Int))):=by omega
 have h48': ¬ (281474976710656<Builtin.nextslicecap (sLen+n) sCap*i.bytes):=by omega
 simp [Builtin.append_,run_underlying ht,run_underlying hd2,hz2,sizeOf,typeInfo,zeroValue,hi,hz,hlen,hn,h63',h48',Question.forced,hf w.drew rfl,hold,newRow,grownCap]
 congr 2
 apply Array.ext'
 simp [List.append_assoc]
theorem run_append_nilA {P:Program}(w:World)(t t2 ty e:TypeId)(i:TypeInfo)(z:Value)(ht:P.underlying t=some (.slice e))(hi:P.info? e=some i)(hz:i.zero=some z)
 (A0:Option Addr) (n:Nat) (news:List Value) {v2:Value} (hB:Behind P w t2 i.size n news v2)
 (h0:0<n) (h63:(n:Int)≤9223372036854775807) (h48:n*i.bytes≤281474976710656):
 (Builtin.append_ #[t,t2] ty #[.slice A0 0 0,v2]).run P w=
  .ok (.slice (some ⟨w.heap.size,0,none⟩) n (grownCap w n 0 e)) (w.drew.alloc (.cells (news.toArray++Builtin.zeroCells z.cells (grownCap w n 0 e-n)) e)):=by
 have hold:(Builtin.firstCells i.size 0 (.slice A0 0 0)).run P w.drew= .ok ([]:List Value).toArray w.drew:=by
  cases A0 with
  |none=>simp [Builtin.firstCells]
  |some a0=>exact run_firstCells_some (P:=P) w.drew i.size 0 a0 0 0 [] (by simp) (by simp)
 have:=run_app_grow (P:=P) w t t2 ty e i z ht hi hz A0 0 0 [] hold n news hB (by omega) (by simpa using h63) (by rw [Nat.zero_add,nextslicecap_zero h0];exact h48)
 simpa using this
theorem run_first {P:Program}{w:World}{A:Option Addr}{m k c:Nat}{news:List Value}(hl:news.length=m*k)(hA:0<m→ ∃ ad,A=some ad)(h: ∀ ad,A=some ad→ ∀ (j:Nat) (u:Value),news[j]? =some u→w.cell? (ad.add j)=some u):
 (Builtin.firstCells k m (.slice A m c)).run P w= .ok news.toArray w:=by
 cases A with
 |none=>
  have:m=0:=by rcases Nat.eq_zero_or_pos m with h0|h0;exact h0;obtain ⟨ad,h⟩:=hA h0;cases h
  subst this
  obtain rfl:news=[]:=List.eq_nil_of_length_eq_zero (by simpa using hl)
  simp [Builtin.firstCells]
 |some ad=>exact run_firstCells_some (P:=P) w k m ad m c news hl (h ad rfl)
section
variable {c:Ctx} {s:St} {d:Option Tmp} {ty:TypeId} {pos:String} {af:Array Edge} {g:Option (Nat×Bool)}
theorem append_coreG {t t2:TypeId}{a:Act}{w:World}{β:Emb}{v1 v2:Value}{b o n k fz m:Nat}{cs ds:List AV}{ti ei:TI}{e:TypeId}(hs:SatB c s β a w)(ht:tget c.U t=some ti)(htd:ti.desc= .slice e)(he:tget c.U e=some ei)(hk:ei.size=k)
 (hzs:ei.zero.cells.size=k) (hbp:0<ei.bytes) (hx:VRel c.F β w (.sl b o n) v1) (hb:hget s.H b=some (.row e k fz cs)) (hin:o+n*k≤cs.length) (hfz:fz≤o+n*k)
 (hsrc: ∃ news:List Value,Behind c.P w t2 k m news v2∧news.length=m*k∧(∀ u∈news,u.oneCell'=true)∧ ∀ (i:Nat) (y:AV),ds[i]? =some y→ ∃ u,news[i]? =some u∧CRel (off c.F β) w y u) (hds:ds.length=m*k) (hbytes:(n+m)*ei.bytes≤140737488355328):
 ∃ r w' β',(Builtin.append_ #[t,t2] ty #[v1,v2]).run c.P w= .ok r w'∧SatB c ⟨killT b s.T,(b,.row e k (fz-o) ((cs.drop o).take (n*k)++ds))::killH b s.H,b::s.M⟩ β' a w'∧VRel c.F β' w' (.sl b 0 (n+m)) r:=by
 have hu:=zx ht
 rw [htd] at hu
 obtain ⟨i,hi,hi1,hi2,hi3⟩:=ty_info he
 rw [hk] at hi1
 obtain ⟨news,hB,hnl,hn1,hrel⟩:=hsrc
 have hB':Behind c.P w t2 i.size m news v2:=by rw [hi1];exact hB
 obtain ⟨p,hp,hcase⟩:=hx.sl_inv2;obtain ⟨p',hp',hr⟩:=hs.heap.obj b _ hb
 rw [hp] at hp';cases hp'
 obtain ⟨hpk,hnil,hr⟩:=hr
 have hlen:((cs.drop o).take (n*k)++ds).length=(n+m)*k:=by
  simp only [List.length_append,List.length_take,List.length_drop,hds,Nat.add_mul]
  omega
 have h63:((n+m:Nat):Int)≤9223372036854775807:=by
  have:n+m≤(n+m)*ei.bytes:=Nat.le_mul_of_pos_right _ hbp
  omega
 -- what the new row says, wherever it lies
 have hO: ∀ {p2:Place},(p2.nil=false→(p.nil=false∧p2.blk=p.blk)∨w.heap.size≤p2.blk)→ ∀ k',off c.F (upd β b p2) k'→off c.F β k'∨w.heap.size≤k':=by
  rintro p2 hblk k' (hk'|⟨j,q,hq,hqn,rfl⟩)
  ·exact .inl (.inl hk')
  ·rcases Qu hq with ⟨rfl,rfl⟩|⟨_,hq⟩
   ·rcases hblk hqn with ⟨h1,h2⟩|h
    ·exact .inl (.inr ⟨b,p,hp,h1,h2.symm⟩)
    ·exact .inr h
   ·exact .inl (.inr ⟨j,q,hq,hqn,rfl⟩)
 rcases hcase with ⟨hn,cap,hv,hcap,hclim⟩|⟨rfl,A0,hv,hA0⟩
 ·obtain ⟨cv,fr,hcv,hlim,h5,h6,h7⟩:=hr hn
  by_cases hroom:n+m≤cap
  ·-- there is room
   have hmk:(n+m)*k≤cap*k:=Nat.mul_le_mul_right _ hroom
   rw [hpk] at hclim
   have hspace:p.st+o+n*k+m*k≤cv.size:=by rw [Nat.add_mul] at hmk;omega
   have hst:(storeCells ⟨p.blk,p.st+o+n*i.size,none⟩ news 0).run c.P w= .ok () (w.setCells p.blk (p.st+o+n*k) news):=by
    have ht':=hcv.1
    have:=run_storeCells_cells (P:=c.P) p.blk (p.st+o+n*k) news 0 w (fun j hj=>by
     rw [hnl] at hj
     simp [World.cell?,ht']
     omega) (fun j hj=>by
     rw [hnl] at hj
     have h7':=h7 (p.st+o+n*k+0+j) (by omega)
     obtain ⟨lo,hi⟩:=fr
     simp only [World.frozen?,ht',Bool.and_eq_false_iff,decide_eq_false_iff_not]
     by_cases q:lo≤p.st+o+n*k+0+j
     ·by_cases q2:p.st+o+n*k+0+j<hi
      ·have:=h7' q q2;omega
      ·exact .inr q2
     ·exact .inl q) hn1
    simpa [hi1] using this
   have hrun:=run_append_in (P:=c.P) (ty:=ty) hu hi p.blk (p.st+o) n cap m news hB' hroom hst
   have hbut:=But.setCells p.blk news (p.st+o+n*k) w
   let p2:Place:=⟨p.blk,p.st+o,p.lim,k,false⟩
   have hblk:p2.nil=false→(p.nil=false∧p2.blk=p.blk)∨w.heap.size≤p2.blk:=fun _=> .inl ⟨hn,rfl⟩
   have hw: ∀ k',k'<w.heap.size→ ¬ off c.F β k'→(w.setCells p.blk (p.st+o+n*k) news).heap[k']? =w.heap[k']? :=fun k' hk' hno=>hbut.block k' hk' (fun e=>hno (.inr ⟨b,p,hp,hn,e.symm⟩))
   have hs':=hs.replace (p':=p2) hp hblk ⟨hbut.os,hbut.tape,hbut.output,hbut.size,fun k' hk' hno=>hbut.block k' hk' (fun e=>hno ⟨hn,e⟩)⟩ (o:= .row e k (fz-o) ((cs.drop o).take (n*k)++ds)) (by
    have ht':=hcv.1
    refine ⟨rfl,(fun h=>by cases h),fun _=>⟨_,fr,zaa _ _ hcv,by rw [qS];exact hlim,by rw [hlen,qS,Nat.add_mul];show p.st+o+_≤_;omega,fun j z hz=> ?_,fun o' ho' h1 h2=> ?_⟩⟩
    ·rw [wr_get _ _ _ _ (by rw [hnl];omega),hnl]
     show ∃ v,(if p.st+o+n*k≤p.st+o+j∧p.st+o+j<p.st+o+n*k+m*k then _ else _)=some v∧_
     by_cases hj:j<n*k
     ·rw [List.getElem?_append_left (by simp;omega),List.getElem?_take_of_lt hj,List.getElem?_drop] at hz
      obtain ⟨u,hu',hc,h1⟩:=h6 _ z hz;exact ⟨u,by rw [if_neg (by omega),Nat.add_assoc];exact hu',hc.mono hbut.size (hO hblk) hw,h1⟩
     ·rw [List.getElem?_append_right (by simp;omega)] at hz
      have hlt:((cs.drop o).take (n*k)).length=n*k:=by simp;omega
      rw [hlt] at hz
      obtain ⟨u,hu',hc⟩:=hrel _ z hz
      have hj2:j-n*k<m*k:=by rw [←hds];exact (List.getElem?_eq_some_iff.1 hz).1
      refine ⟨u,?_,hc.mono hbut.size (hO hblk) hw,hn1 u (List.mem_of_getElem? hu')⟩
      rw [if_pos (by omega),show p.st+o+j-(p.st+o+n*k)=j-n*k by omega]
      exact hu'
    ·rw [qS] at ho'
     have:=h7 o' ho' h1 h2
     show o'<p.st+o+(fz-o)
     omega)
   rw [hv]
   refine ⟨_,_,upd β b p2,hrun,hs',?_⟩;exact .sl (p:=p2) (ZD _ _ _) rfl hroom (by show p.st+o+0+cap*k≤p.lim;omega)
  ·-- it grows
   have hm0:0<m:=by omega
   let olds:List Value:=(cv.toList.drop (p.st+o)).take (n*k)
   have hol:olds.length=n*k:=by simp [olds];omega
   have hog: ∀ j,j<n*k→olds[j]? =cv[p.st+o+j]? :=fun j hj=>by
    simp only [olds]
    rw [List.getElem?_take_of_lt hj,List.getElem?_drop]
    simp
   have hfit:=growslice_fits (need:=n+m) (old:=cap) (bytes:=ei.bytes) (by omega) hbytes
   have hrun:=run_app_grow (P:=c.P) w t t2 ty e i ei.zero hu hi hi3 (some ⟨p.blk,p.st+o,none⟩) n cap olds (run_firstCells_some (P:=c.P) w.drew i.size n ⟨p.blk,p.st+o,none⟩ n cap olds (by rw [hi1];exact hol) (fun j v hj=>by
    have hjl:j<n*k:=by rw [←hol];exact (List.getElem?_eq_some_iff.1 hj).1
    rw [hog j hjl] at hj
    show w.cell? _=_
    rw [a_add,Zi hcv];exact hj))
    m news hB' (by omega) h63 (by rw [hi2];exact hfit)
   generalize hgc:grownCap w (n+m) cap e=newCap at hrun
   have hgc':n+m≤newCap:=by rw [←hgc];exact Nat.le_add_right _ _
   generalize harr:olds.toArray++news.toArray++Builtin.zeroCells ei.zero.cells (newCap-(n+m))=arr at hrun
   have hsz:arr.size=newCap*k:=by
    rw [←harr]
    simp only [Array.size_append,List.size_toArray,hol,hnl,size_zeroCells,hzs]
    rw [Nat.sub_mul,Nat.add_mul]
    have:(n+m)*k≤newCap*k:=Nat.mul_le_mul_right _ hgc'
    rw [Nat.add_mul] at this
    omega
   let p2:Place:=⟨w.heap.size,0,arr.size,k,false⟩
   have hblk:p2.nil=false→(p.nil=false∧p2.blk=p.blk)∨w.heap.size≤p2.blk:=fun _=> .inr (Nat.le_refl _)
   have hbl: ∀ k',k'<w.heap.size→(w.drew.alloc (.cells arr e)).heap[k']? =w.heap[k']? :=fun k' hk'=>RowKit.Below.heap_alloc _ _ _ hk'
   have hsize:w.heap.size≤(w.drew.alloc (.cells arr e)).heap.size:=by simp
   have hs':=hs.replace (w':=w.drew.alloc (.cells arr e)) (p':=p2) hp hblk ⟨rfl,⟨rfl,Nat.le_succ _⟩,rfl,hsize,fun k' hk' _=>hbl k' hk'⟩ (o:= .row e k (fz-o) ((cs.drop o).take (n*k)++ds)) (by
    refine ⟨rfl,(fun h=>by cases h),fun _=>⟨arr,(0,0),⟨qJ w.drew _,fun _=>Nat.zero_le _⟩,rfl,by rw [hlen,hsz];show 0+_≤_;have:=Nat.mul_le_mul_right k hgc';omega,fun j z hz=> ?_,fun o' ho' h1 h2=>by simp at h2⟩⟩
    show ∃ v,arr[0+j]? =some v∧_
    rw [Nat.zero_add]
    by_cases hj:j<n*k
    ·rw [List.getElem?_append_left (by simp;omega),List.getElem?_take_of_lt hj,List.getElem?_drop] at hz
     obtain ⟨u,hu',hc,h1⟩:=h6 _ z hz;refine ⟨u,?_,hc.mono hsize (hO hblk) (fun k' hk' _=>hbl k' hk'),h1⟩
     rw [←harr,Array.getElem?_append_left (by simp [hol];omega),Array.getElem?_append_left (by simp [hol];omega)]
     simp only [List.getElem?_toArray]
     rw [hog j hj,Nat.add_assoc];exact hu'
    ·rw [List.getElem?_append_right (by simp;omega)] at hz
     have hlt:((cs.drop o).take (n*k)).length=n*k:=by simp;omega
     rw [hlt] at hz
     obtain ⟨u,hu',hc⟩:=hrel _ z hz
     have hj2:j-n*k<m*k:=by rw [←hds];exact (List.getElem?_eq_some_iff.1 hz).1
     refine ⟨u,?_,hc.mono hsize (hO hblk) (fun k' hk' _=>hbl k' hk'),hn1 u (List.mem_of_getElem? hu')⟩
     rw [←harr,Array.getElem?_append_left (by simp [hol,hnl];omega),Array.getElem?_append_right (by simp [hol];omega)]
     simpa [hol] using hu')
   rw [hv]
   refine ⟨_,_,upd β b p2,hrun,hs',?_⟩;exact .sl (p:=p2) (ZD _ _ _) rfl hgc' (by show 0+0+newCap*k≤arr.size;omega)
 ·-- nil
  by_cases hm0:m=0
  ·subst hm0
   obtain rfl:ds=[]:=List.eq_nil_of_length_eq_zero (by simpa using hds);obtain rfl:news=[]:=List.eq_nil_of_length_eq_zero (by simpa using hnl)
   have hrun:=run_append_nil0 (P:=c.P) (w:=w) (ty:=ty) hu hi A0 hB'
   rw [hv]
   simp only [Nat.zero_mul,List.take_zero,List.append_nil,Nat.add_zero]
   cases hpn:p.nil with
   |true=>
    obtain rfl:A0=none:=by
     cases A0 with
     |none=>rfl
     |some ad=>have:=(hA0 ad rfl).1;rw [hpn] at this;cases this
    have hs':=hs.replace (w':=w) (p':=⟨0,0,0,k,true⟩) hp (fun h=>by cases h) ⟨rfl,⟨rfl,Nat.le_refl _⟩,rfl,Nat.le_refl _,fun _ _ _=>rfl⟩ (o:= .row e k (fz-o) []) ⟨rfl,(fun _=>rfl),(fun h=>by cases h)⟩
    exact ⟨_,_,upd β b ⟨0,0,0,k,true⟩,hrun,hs',.slz (ZD _ _ _) (fun _ h=>by cases h)⟩
   |false=>
    obtain ⟨cv,fr,hcv,hlim,h5,h6,h7⟩:=hr hpn
    let p2:Place:=⟨p.blk,p.st+o,p.lim,p.k,false⟩
    have hs':=hs.replace (w':=w) (p':=p2) hp (fun _=> .inl ⟨hpn,rfl⟩) ⟨rfl,⟨rfl,Nat.le_refl _⟩,rfl,Nat.le_refl _,fun _ _ _=>rfl⟩ (o:= .row e k (fz-o) []) ⟨hpk,(fun _=>rfl),fun _=>⟨cv,fr,hcv,hlim,by simp [p2];omega,fun i x hx=>by simp at hx,fun o' ho' h1 h2=>by have:=h7 o' ho' h1 h2;show o'<p.st+o+(fz-o);omega⟩⟩
    exact ⟨_,_,upd β b p2,hrun,hs',.slz (ZD _ _ _) (fun ad h=>⟨rfl,(hA0 ad h).2⟩)⟩
  ·have hrun:=run_append_nilA (P:=c.P) w t t2 ty e i ei.zero hu hi hi3 A0 m news hB' (by omega) (by simpa using h63) (by rw [hi2];rw [Nat.zero_add] at hbytes;omega)
   generalize hgc:grownCap w m 0 e=newCap at hrun
   have hgc':m≤newCap:=by rw [←hgc];exact Nat.le_add_right _ _
   generalize harr:news.toArray++Builtin.zeroCells ei.zero.cells (newCap-m)=arr at hrun
   have hsz:arr.size=newCap*k:=by
    rw [←harr]
    simp only [Array.size_append,List.size_toArray,hnl,size_zeroCells,hzs]
    rw [Nat.sub_mul]
    have:m*k≤newCap*k:=Nat.mul_le_mul_right _ hgc'
    omega
   let p2:Place:=⟨w.heap.size,0,arr.size,k,false⟩
   have hblk:p2.nil=false→(p.nil=false∧p2.blk=p.blk)∨w.heap.size≤p2.blk:=fun _=> .inr (Nat.le_refl _)
   have hbl: ∀ k',k'<w.heap.size→(w.drew.alloc (.cells arr e)).heap[k']? =w.heap[k']? :=fun k' hk'=>RowKit.Below.heap_alloc _ _ _ hk'
   have hsize:w.heap.size≤(w.drew.alloc (.cells arr e)).heap.size:=by simp
   have hs':=hs.replace (w':=w.drew.alloc (.cells arr e)) (p':=p2) hp hblk ⟨rfl,⟨rfl,Nat.le_succ _⟩,rfl,hsize,fun k' hk' _=>hbl k' hk'⟩ (o:= .row e k (fz-o) ds) (by
    refine ⟨rfl,(fun h=>by cases h),fun _=>⟨arr,(0,0),⟨qJ w.drew _,fun _=>Nat.zero_le _⟩,rfl,by rw [hds,hsz];show 0+_≤_;have:=Nat.mul_le_mul_right k hgc';omega,fun j z hz=> ?_,fun o' ho' h1 h2=>by simp at h2⟩⟩
    show ∃ v,arr[0+j]? =some v∧_
    rw [Nat.zero_add]
    obtain ⟨u,hu',hc⟩:=hrel _ z hz
    have hj2:j<m*k:=by rw [←hds];exact (List.getElem?_eq_some_iff.1 hz).1
    refine ⟨u,?_,hc.mono hsize (hO hblk) (fun k' hk' _=>hbl k' hk'),hn1 u (List.mem_of_getElem? hu')⟩
    rw [←harr,Array.getElem?_append_left (by simp [hnl];omega)]
    simpa using hu')
   rw [hv]
   simp only [Nat.zero_mul,List.take_zero,List.nil_append,Nat.zero_add]
   refine ⟨_,_,upd β b p2,hrun,hs',?_⟩;exact (.sl (p:=p2) (ZD _ _ _) rfl hgc' (by show 0+0+newCap*k≤arr.size;omega))
theorem append_core {t:TypeId}{a:Act}{w:World}{β:Emb}{v1 v2:Value}{b o n k fz m:Nat}{cs ds:List AV}{ti ei:TI}{e:TypeId}(hs:SatB c s β a w)(ht:tget c.U t=some ti)(htd:ti.desc= .slice e)(he:tget c.U e=some ei)(hk:ei.size=k)
 (hzs:ei.zero.cells.size=k) (hbp:0<ei.bytes) (hx:VRel c.F β w (.sl b o n) v1) (hb:hget s.H b=some (.row e k fz cs)) (hin:o+n*k≤cs.length) (hfz:fz≤o+n*k)
 (hsrc: ∃ (A:Option Addr) (cap:Nat) (news:List Value),v2= .slice A m cap∧(0<m→ ∃ ad,A=some ad)∧news.length=m*k∧(∀ ad,A=some ad→ ∀ (j:Nat) (u:Value),news[j]? =some u→w.cell? (ad.add j)=some u)∧
  (∀ u∈news,u.oneCell'=true)∧ ∀ (i:Nat) (y:AV),ds[i]? =some y→ ∃ u,news[i]? =some u∧CRel (off c.F β) w y u) (hds:ds.length=m*k) (hbytes:(n+m)*ei.bytes≤140737488355328):
 ∃ r w' β',(Builtin.append_ #[t,t] ty #[v1,v2]).run c.P w= .ok r w'∧SatB c ⟨killT b s.T,(b,.row e k (fz-o) ((cs.drop o).take (n*k)++ds))::killH b s.H,b::s.M⟩ β' a w'∧VRel c.F β' w' (.sl b 0 (n+m)) r:=by
 obtain ⟨A,cap2,news,rfl,hA,hnl,hnews,hn1,hrel⟩:=hsrc;refine append_coreG hs ht htd he hk hzs hbp hx hb hin hfz ⟨news,⟨⟨_,(zx ht).trans (congrArg some htd),fun q h=>by cases h⟩,fun w'=>by simp [Builtin.lenOf],fun w' hw'=> ?_⟩,hnl,hn1,hrel⟩ hds hbytes
 exact run_first hnl hA (fun ad had j u hj=>by
  have:=hnews ad had j u hj
  rw [show w'.cell? (ad.add j)=w.cell? (ad.add j) by simp only [World.cell?,hw']];exact this)
theorem e_appendS {t t2:TypeId}{x y:Operand}{b o n fz:Nat}{cs:List AV}{l:ByteArray}{ti ti2 ei:TI}{e:TypeId}(ht:tget c.U t=some ti)(htd:ti.desc= .slice e)(ht2:tget c.U t2=some ti2)(ht2d:ti2.desc= .string)(he:tget c.U e=some ei)(hk:ei.size=1)(hzs:ei.zero.cells.size=1)(hbp:0<ei.bytes)
 (hx:opv s.T x=some (.sl b o n)) (hb:hget s.H b=some (.row e 1 fz cs)) (hin:o+n*1≤cs.length) (hfz:fz≤o+n*1) (hy:opv s.T y=some (.pl (.string l)))
 (hbytes:(n+l.size)*ei.bytes≤140737488355328) (hd:dstOk c.N d=true):
 EOp c ⟨d,.call {callee:= .builtin .append,args:= #[x,y],argTypes:= #[t,t2]},ty,pos,af,g⟩ s ⟨putT (killT b s.T) d (.sl b 0 (n+l.size)),(b,.row e 1 (fz-o) ((cs.drop o).take (n*1)++l.data.toList.map fun u=>AV.pl (.int .u8 (u.toNat:Int))))::killH b s.H,b::s.M⟩:=by
 intro a w β hs
 have hv2:a.eval y= .string l:=hs.pl hy
 obtain ⟨r,w',β',hrun,hs',hr⟩:=append_coreG (ty:=ty) (t2:=t2) (v2:= .string l) (m:=l.size) (ds:=l.data.toList.map fun u=>AV.pl (.int .u8 (u.toNat:Int))) hs ht htd he hk hzs hbp (hs.op hx) hb hin hfz ⟨l.data.toList.map fun u=>Value.int .u8 (u.toNat:Int),
  ⟨⟨_,(zx ht2).trans (congrArg some ht2d),fun q h=>by cases h⟩,fun w'=>by simp [Builtin.lenOf],fun w' _=>by
   have:l.extract 0 l.size=l:=by
    apply ByteArray.ext
    simp [ByteArray.data_extract]
   simp only [Builtin.firstCells,this,Sem.run_pure]
   rw [show l.data.toList.map (fun u=>Value.int .u8 (u.toNat:Int))=(l.data.map fun u=>Value.int .u8 (u.toNat:Int)).toList by rw [Array.toList_map],Array.toArray_toList]⟩,by rw [List.length_map,Array.length_toList,Nat.mul_one];rfl,fun u hu=>by
   obtain ⟨v,_,rfl⟩:=List.mem_map.1 hu;rfl,fun i y hy=>by
   rw [List.getElem?_map,Option.map_eq_some_iff] at hy
   obtain ⟨u,hu,rfl⟩:=hy
   exact ⟨_,by rw [List.getElem?_map,hu];rfl,.pl _⟩⟩ (by rw [List.length_map,Array.length_toList,Nat.mul_one];rfl) hbytes
 exact ⟨w',β',.inl ⟨r,by simp [execOp,resolve,invoke,builtin,hv2,hrun],hs'.put hd hr⟩⟩
theorem e_append {t:TypeId}{x y:Operand}{b o n k fz m:Nat}{cs ds:List AV}{ay:AV}{ti ei:TI}{e:TypeId}(ht:tget c.U t=some ti)(htd:ti.desc= .slice e)(he:tget c.U e=some ei)(hk:ei.size=k)(hzs:ei.zero.cells.size=k)(hbp:0<ei.bytes)
 (hx:opv s.T x=some (.sl b o n)) (hb:hget s.H b=some (.row e k fz cs)) (hin:o+n*k≤cs.length) (hfz:fz≤o+n*k) (hy:opv s.T y=some ay) (hsrc:srcAt s.H k ay=some (m,ds)) (hds:ds.length=m*k)
 (hbytes:(n+m)*ei.bytes≤140737488355328) (hd:dstOk c.N d=true):
 EOp c ⟨d,.call {callee:= .builtin .append,args:= #[x,y],argTypes:= #[t,t]},ty,pos,af,g⟩ s ⟨putT (killT b s.T) d (.sl b 0 (n+m)),(b,.row e k (fz-o) ((cs.drop o).take (n*k)++ds))::killH b s.H,b::s.M⟩:=by
 intro a w β hs
 obtain ⟨r,w',β',hrun,hs',hr⟩:=append_core (ty:=ty) hs ht htd he hk hzs hbp (hs.op hx) hb hin hfz (hs.src (hs.op hy) hsrc hds) hds hbytes;exact ⟨w',β',.inl ⟨r,by simp [execOp,resolve,invoke,builtin,hrun],hs'.put hd hr⟩⟩
end
end Go.Abs
set_option linter.unusedVariables false
set_option linter.unusedSimpArgs false
namespace Go.Abs
open Go
variable [GTab]
theorem wr_append: ∀ (l1 l2:List Value) (c:Array Value) (o:Nat),wr c o (l1++l2)=wr (wr c o l1) (o+l1.length) l2
 |[],l2,c,o=>rfl
 |x::r,l2,c,o=>by
  simp only [List.cons_append,wr,List.length_cons]
  rw [wr_append r l2,show o+1+r.length=o+(r.length+1) by omega]
theorem foldl_wr (l:List Value): ∀ (b o:Nat) (c:Array Value),((l.zipIdx o).foldl (fun cs (x:Value×Nat)=>cs.setIfInBounds (b+x.2) x.1) c)=wr c (b+o) l:=by
 induction l with
 |nil=>intro b o c;rfl
 |cons x r ih=>intro b o c;simp only [List.zipIdx_cons,List.foldl_cons,wr];exact ih b (o+1) (c.setIfInBounds (b+o) x)
def enumV:Nat→List Value→List (Nat×Value)
 |_,[]=>[]
 |j,v::r=>(j,v)::enumV (j+1) r
theorem fill_seq (k:Nat): ∀ (vs:List Value) (j:Nat) (c:Array Value),(∀ v∈vs,v.cells.size=k)→(j+vs.length)*k≤c.size→
 Instr.fill (fun i=>some (i*k,k)) c (enumV j vs)=some (wr c (j*k) (vs.flatMap (·.cells.toList)))
 |[],j,c,_,_=>rfl
 |v::r,j,c,hv,hc=>by
  have hvk:=hv v (by simp)
  have h1: ¬ (v.cells.size≠k∨j*k+v.cells.size>c.size):=by
   simp only [List.length_cons] at hc
   rw [show j+(r.length+1)=j+1+r.length by omega,Nat.add_mul,Nat.add_mul,Nat.one_mul] at hc
   omega
  simp only [enumV,Instr.fill]
  rw [if_neg (by simpa using h1)]
  have h2:v.cells.zipIdx.foldl (fun cs (x:Value×Nat)=>cs.setIfInBounds (j*k+x.2) x.1) c=wr c (j*k) v.cells.toList:=by
   rw [←Array.foldl_toList,Array.toList_zipIdx,foldl_wr];rfl
  refine (congrArg (fun c'=>Instr.fill (fun i=>some (i*k,k)) c' (enumV (j+1) r)) h2).trans ?_
  rw [fill_seq k r (j+1) _ (fun u hu=>hv u (by simp [hu])) (by rw [qS,show j+1+r.length=j+(r.length+1) by omega];simpa using hc)]
  rw [List.flatMap_cons,wr_append,Array.length_toList,hvk,Nat.add_mul,Nat.one_mul]
theorem run_buildSlice {P:Program}{w:World}{t e:TypeId}{k:Nat}{z:Value}{vs:List Value}(ht:(underlying t).run P w= .ok (.slice e) w)(hs:(sizeOf e).run P w= .ok k w)(hz:(zeroValue e).run P w= .ok z w)(hzs:z.cells.size=k)(hk0:0<k)
 (hv: ∀ v∈vs,v.cells.size=k) (hk:vs.length*k≤2^24) (hn:vs≠[]):
 (Instr.buildSlice t vs.length (enumV 0 vs).toArray).run P w= .ok (.slice (some ⟨w.heap.size,0,none⟩) vs.length vs.length) (w.alloc (.cells (vs.flatMap (·.cells.toList)).toArray e)):=by
 have hfl:(vs.flatMap (·.cells.toList)).length=vs.length*k:=by
  clear hk hn
  induction vs with
  |nil=>simp
  |cons v r ih=>rw [List.flatMap_cons,List.length_append,ih (fun u hu=>hv u (by simp [hu])),Array.length_toList,hv v (by simp),List.length_cons,Nat.add_mul,Nat.one_mul,Nat.add_comm]
 have h0:vs.length*k≠0:=by
  have:0<vs.length:=List.length_pos_iff.2 hn
  have:=Nat.mul_pos this hk0
  omega
 have hfill:=fill_seq k vs 0 ((Array.range (vs.length*k)).map (z.cells[· % z.cells.size]!)) hv (by simp)
 have hall:wr ((Array.range (vs.length*k)).map (z.cells[· % z.cells.size]!)) (0*k) (vs.flatMap (·.cells.toList))=(vs.flatMap (·.cells.toList)).toArray:=by
  apply Array.ext_getElem?
  intro i
  rw [wr_get _ _ _ _ (by simp [hfl])]
  by_cases hi:i<vs.length*k
  ·rw [if_pos (by simp [hfl,hi])];simp
  ·rw [if_neg (by simp [hfl,hi]),Array.getElem?_eq_none (by simp;omega),Array.getElem?_eq_none (by simp [hfl];omega)]
 rw [hall] at hfill
 unfold Instr.buildSlice
 simp only [Sem.run_bind,ht,Result.andThen_ok,hs]
 have h3: ¬ (vs.length*k>2^24):=by omega
 simp only [h3,if_false,Sem.run_pure,Result.andThen_ok,h0,Sem.run_bind,hz,List.toList_toArray,hfill]
 simp [newRow]
def enumO:Nat→List Operand→List (Nat×Operand)
 |_,[]=>[]
 |j,v::r=>(j,v)::enumO (j+1) r
theorem enumO_map (f:Operand→Value): ∀ (j:Nat) (xs:List Operand),(enumO j xs).map (fun (i,x)=>(i,f x))=enumV j (xs.map f)
 |_,[]=>rfl
 |j,x::r=>by simp only [enumO,List.map_cons,enumV,enumO_map f (j+1) r]
def cellsL:List AV→List AV
 |[]=>[]
 |x::r=>cellsA x++cellsL r
def fitAll (k:Nat):List AV→Bool
 |[]=>true
 |x::r=>fit x&&(AV.closedL (cellsA x)&&(Nat.beq (cellsA x).length k&&fitAll k r))
theorem cellsL_spec {F:Nat→Prop}{β:Emb}{w:World}{k:Nat}: ∀ {xs:List AV} {vs:List Value},fitAll k xs=true→Args F β w xs vs→
 (∀ v∈vs,v.cells.size=k)∧(cellsL xs).length=(vs.flatMap (·.cells.toList)).length∧
  ∀ (i:Nat) (y:AV),(cellsL xs)[i]? =some y→ ∃ u,(vs.flatMap (·.cells.toList))[i]? =some u∧CRel (off F β) w y u∧u.oneCell'=true
 |[],[],_,_=>⟨by simp,rfl,by simp [cellsL]⟩
 |[],v::r,_,h=>by have:=h.1;simp at this
 |x::r,[],_,h=>by have:=h.1;simp at this
 |x::r,v::vr,hf,h=>by
  simp only [fitAll,Bool.and_eq_true] at hf
  obtain ⟨hf1,hf2,hf3,hf4⟩:=hf
  have hxv:VRel F β w x v:=h.2 0 x v rfl rfl
  obtain ⟨hl,hc⟩:=hxv.cells hf1
  have hk:=Nat.eq_of_beq_eq_true hf3
  obtain ⟨i1,i2,i3⟩:=cellsL_spec hf4 (vs:=vr) ⟨by have:=h.1;simpa using this,fun i y u hy hu=>h.2 (i+1) y u (by simpa using hy) (by simpa using hu)⟩;refine ⟨fun u hu=> ?_,?_,fun i y hy=> ?_⟩
  ·rcases List.mem_cons.1 hu with rfl|hu
   ·rw [←hl,hk]
   ·exact i1 u hu
  ·rw [cellsL,List.length_append,List.flatMap_cons,List.length_append,i2,hl];simp
  ·rw [cellsL] at hy
   rw [List.flatMap_cons]
   by_cases hi:i<(cellsA x).length
   ·rw [List.getElem?_append_left hi] at hy
    obtain ⟨u,hu,hr,h1⟩:=hc i y hy;exact ⟨u,by rw [List.getElem?_append_left (by simp;omega)];simpa using hu,hr.closed (AV.closedL_get hf2 hy),h1⟩
   ·rw [List.getElem?_append_right (by omega)] at hy
    obtain ⟨u,hu,hr,h1⟩:=i3 _ y hy;exact ⟨u,by rw [List.getElem?_append_right (by simp;omega)];simpa [hl] using hu,hr,h1⟩
theorem SatB.newrow {c:Ctx}{s:St}{β:Emb}{a:Act}{w:World}(hs:SatB c s β a w){b:Nat}(hb:hget s.H b=none)(cells:Array Value)(e:TypeId){k n:Nat}{cs:List AV}(hl:cs.length=cells.size)(hsz:cells.size=n*k)
 (h: ∀ (i:Nat) (y:AV),cs[i]? =some y→ ∃ u,cells[i]? =some u∧CRel (off c.F β) w y u∧u.oneCell'=true) (fr:Nat×Nat:=(0,0)) (hfr: ∀ o,o<cells.size→fr.1≤o→ ¬ o<fr.2) (hf2:fr.2≤cells.size:=by exact Nat.zero_le _):
 ∃ β',SatB c ⟨s.T,(b,.row e k 0 cs)::s.H,s.M⟩ β' a (w.alloc (.cells cells e fr))∧VRel c.F β' (w.alloc (.cells cells e fr)) (.sl b 0 n) (.slice (some ⟨w.heap.size,0,none⟩) n n):=by
 let p:Place:=⟨w.heap.size,0,cells.size,k,false⟩
 have hO: ∀ k,off c.F (upd β b p) k→off c.F β k∨w.heap.size≤k:=by
  rintro k (hk|⟨i,q,hq,hqn,rfl⟩)
  ·exact .inl (.inl hk)
  ·rcases Qu hq with ⟨rfl,rfl⟩|⟨_,hq⟩
   ·exact .inr (Nat.le_refl _)
   ·exact .inl (.inr ⟨i,q,hq,hqn,rfl⟩)
 refine ⟨upd β b p,hs.newobj hb p (.inl rfl) (fun _=>⟨Nat.le_refl _,by simp [p]⟩) (But.alloc _ _) ?_,?_⟩
 ·refine ⟨rfl,(fun h=>by cases h),fun _=>⟨cells,fr,⟨qJ _ _,fun _=>hf2⟩,rfl,by simp [p,hl],fun i y hy=> ?_,fun o ho h1 h2=>(hfr o ho h1 h2).elim⟩⟩;obtain ⟨u,hu,hr,h1⟩:=h i y hy;exact ⟨u,by simp [p,hu],hr.mono (by simp) hO (fun k hk _=>RowKit.Below.heap_alloc _ _ _ hk),h1⟩
 ·exact .sl (p:=p) (ZD _ _ _) rfl (Nat.le_refl _) (by show 0+0+n*k≤cells.size;omega)
section
variable {c:Ctx} {s:St} {d:Option Tmp} {ty:TypeId} {pos:String} {af:Array Edge} {g:Option (Nat×Bool)}
theorem e_buildSlice {t:TypeId}{n:Nat}{parts:Array (Nat×Operand)}{xs:List Operand}{axs cs:List AV}{ti ei:TI}{e k:Nat}(ht:tget c.U t=some ti)(htd:ti.desc= .slice e)(he:tget c.U e=some ei)(hk:ei.size=k)(hk0:0<k)
 (hzs:ei.zero.cells.size=k) (hparts:parts.toList=enumO 0 xs) (hn:xs.length=n) (hn0:xs≠[]) (hx:opvL s.T xs=some axs) (hfit:fitAll k axs=true) (hcs:cellsL axs=cs) (hlim:n*k≤2^24) (hb:hget s.H (nm d)=none) (hd:dstOk c.N d=true):
 EOpB c ⟨d,.buildSlice t n parts,ty,pos,af,g⟩ s ⟨putT s.T d (.sl (nm d) 0 n),(nm d,.row e k 0 cs)::s.H,s.M⟩:=by
 intro a w β hs
 have hA:=opvL_get hs hx
 obtain ⟨h1,h2,h3⟩:=cellsL_spec hfit hA
 subst hcs;subst hn
 have hlen:(xs.map a.eval).length=xs.length:=by simp
 have hrun:=run_buildSlice (P:=c.P) (w:=w) (t:=t) (vs:=xs.map a.eval) (by rw [ty_desc ht,htd]) (by rw [QS he,hk]) (ty_zero he w) hzs hk0 h1 (by rw [hlen];exact hlim) (by simpa using hn0)
 have hfl:((xs.map a.eval).flatMap (·.cells.toList)).length=xs.length*k:=by
  rw [←hlen]
  generalize xs.map a.eval=vs at h1
  induction vs with
  |nil=>simp
  |cons v r ih=>rw [List.flatMap_cons,List.length_append,ih (fun u hu=>h1 u (by simp [hu])),Array.length_toList,h1 v (by simp),List.length_cons,Nat.add_mul,Nat.one_mul,Nat.add_comm]
 obtain ⟨β',hs',hr⟩:=hs.newrow hb ((xs.map a.eval).flatMap (·.cells.toList)).toArray e (k:=k) (n:=xs.length) (cs:=cellsL axs) (by simpa using h2) (by simpa using hfl)
  (fun i y hy=>let ⟨u,hu,hr,h⟩:=h3 i y hy;⟨u,by simpa using hu,hr,h⟩) (fr:=(0,0)) (fun o _ _ h=>by simp at h)
 refine ⟨_,β',Zv _ _,_,?_,hs'.put hd hr⟩
 have hp:parts.map (fun (i,x)=>(i,a.eval x))=(enumV 0 (xs.map a.eval)).toArray:=by
  rw [←enumO_map,←hparts]
  apply Array.toList_inj.1
  simp
 rw [hlen] at hrun
 simp only [execOp,hp]
 simp [hrun]
end
section
variable {c:Ctx} {Q:Exit→Act→World→Prop} {s:St} {ops:Array Oper} {rest:List Oper}
 {d1:Tmp} {d2:Option Tmp} {ty1 ty2:TypeId} {pos1 pos2:String} {af1 af2:Array Edge}
end
theorem Sat.nilrow {te:TypeId}{c:Ctx}{T:List (Nat×AV)}{H:List (Nat×AObj)}{M:List Nat}{a:Act}{w:World}(h:Sat c ⟨T,H,M⟩ a w){t:Nat}(b k:Nat)(ht:get T t=some (.pl (.slice none 0 0)))(hb:hget H b=none):
 Sat c ⟨(t,.sl b 0 0)::T,(b,.row te k 0 [])::H,M⟩ a w:=by
 obtain ⟨β,hs⟩:=h
 let p:Place:=⟨0,0,0,k,true⟩
 have hs':=hs.newobj (w':=w) hb p (.inr trivial) (fun h=>by cases h) ⟨rfl,⟨rfl,Nat.le_refl _⟩,rfl,Nat.le_refl _,fun _ _ _=>rfl⟩ (o:= .row te k 0 []) ⟨rfl,(fun _=>rfl),(fun h=>by cases h)⟩
 refine ⟨upd β b p,hs'.defers,hs'.size,hs'.heap,fun i x hx=> ?_,hs'.keeps,hs'.stay⟩
 rw [Qf] at hx
 by_cases e:t=i
 ·rw [if_pos e] at hx;cases hx;subst e
  obtain ⟨v,hv,hr⟩:=hs.slot t _ ht;obtain rfl:=hr.pl_eq;exact ⟨_,hv,.slz (p:=p) (ZD _ _ _) (fun _ h=>by cases h)⟩
 ·rw [if_neg e] at hx
  exact hs'.slot i x hx
theorem Sat.freeze {te:TypeId}{c:Ctx}{T:List (Nat×AV)}{H:List (Nat×AObj)}{M:List Nat}{a:Act}{w:World}(h:Sat c ⟨T,H,M⟩ a w){t b o n k fz:Nat}{cs ds:List AV}(ht:get T t=some (.sl b o n))(hb:hget H b=some (.row te k fz cs))(hds:(cs.drop o).take (n*k)=ds):
 Sat c ⟨(t,.vs n ds)::killT b T,killH b H,b::M⟩ a w:=by
 have hd:=h.drop b
 obtain ⟨β,hs⟩:=h
 -- the value ahead of the drop
 obtain ⟨v,hv,hr⟩:=hs.slot t _ ht;obtain ⟨p,hp,hcase⟩:=hr.sl_inv;obtain ⟨p',hp',hro⟩:=hs.heap.obj b _ hb
 rw [hp] at hp';cases hp'
 obtain ⟨hpk,hnil,hro⟩:=hro
 -- the embedding behind it
 let β':Emb:=fun i=>if b=i then none else β i
 have hβ': ∀ i q,β' i=some q→b≠i∧β i=some q:=fun i q hq=>by
  by_cases e:b=i
  ·simp [β',e] at hq
  ·simp only [β',if_neg e] at hq;exact ⟨e,hq⟩
 have hβ: ∀ i q,i≠b→β i=some q→β' i=some q:=fun i q hi hq=>by show (if b=i then none else β i)=some q;rw [if_neg (Ne.symm hi)];exact hq
 have hO: ∀ k,off c.F β' k→off c.F β k∨w.heap.size≤k:=fun k hk=> .inl (hk.imp id (QB fun i p hp=>(hβ' i p hp).2))
 have hw: ∀ k,k<w.heap.size→ ¬ off c.F β k→w.heap[k]? =w.heap[k]? :=fun _ _ _=>rfl
 have hval:CRel (off c.F β') w (.vs n ds) v:=by
  rcases hcase with ⟨hn,cap,rfl,hcap,_⟩|⟨rfl,A0,rfl⟩
  ·obtain ⟨cv,fr,hcv,_,_,h6,_⟩:=hro hn
   have hlt:p.blk<w.heap.size:=hs.heap.blk_lt hp hn
   refine VRel.vs_mk hcap ?_ hlt fun i y hy=> ?_
   ·rintro (hF|⟨j,q,hq,hqn,hqb⟩)
    ·exact hs.heap.apart b p hp hn hF
    ·obtain ⟨h1,h2⟩:=hβ' j q hq;exact h1 (hs.heap.inj b j p q hp h2 hn hqn hqb.symm)
   ·subst hds
    have hi:i<n*k:=by
     have:=(List.getElem?_eq_some_iff.1 hy).1
     simp at this;omega
    rw [List.getElem?_take_of_lt hi,List.getElem?_drop] at hy
    obtain ⟨u,hu,hc,h1⟩:=h6 _ y hy;exact ⟨u,by rw [Zi hcv,Nat.add_assoc];exact hu,hc.mono (Nat.le_refl _) hO hw,h1⟩
  ·exact .vs0
 -- the drop, once more, with its embedding at hand
 refine ⟨β',hs.defers,hs.size,⟨fun i ob hg=> ?_,fun i q hq=> ?_,fun i j q r hq hr=>hs.heap.inj i j q r (hβ' i q hq).2 (hβ' j r hr).2,hs.heap.fresh,fun i q hq=>hs.heap.apart i q (hβ' i q hq).2,hs.heap.glob.mono (Nat.le_refl _) hO hw⟩,fun i x hx=> ?_,?_,fun i q hq hm=> ?_⟩
 ·rw [hget_killH] at hg
  by_cases e:b=i
  ·rw [if_pos e] at hg;cases hg
  ·rw [if_neg e,Option.map_eq_some_iff] at hg
   obtain ⟨ob,ho,rfl⟩:=hg;obtain ⟨q,hq,hr⟩:=hs.heap.obj i ob ho;exact ⟨q,hβ i q (Ne.symm e) hq,hr.carryKill hβ (Nat.le_refl _) hO hw (fun _=>rfl)⟩
 ·obtain ⟨ob,ho⟩:=hs.heap.dom i q (hβ' i q hq).2;exact ⟨ob.kill b,by rw [hget_killH,if_neg (hβ' i q hq).1,ho];rfl⟩
 ·rw [Qf] at hx
  by_cases e:t=i
  ·rw [if_pos e] at hx;cases hx;subst e
   exact ⟨v,hv,.c hval⟩
  ·rw [if_neg e,get_killT,Option.map_eq_some_iff] at hx
   obtain ⟨y,hy,rfl⟩:=hx;obtain ⟨u,hu,hr⟩:=hs.slot i y hy;exact ⟨u,hu,hr.kill hβ (Nat.le_refl _) hO hw⟩
 ·exact ⟨hs.keeps.os,hs.keeps.tape,hs.keeps.output,hs.keeps.size,hs.keeps.block,fun k hk=>hs.keeps.grows k (QB (fun i p hp=>(hβ' i p hp).2) hk)⟩
 ·rw [mem_cons,Bool.or_eq_false_iff,decide_eq_false_iff_not] at hm
  exact hβ i q (Ne.symm hm.1) (hs.stay i q hq hm.2)
section
variable {c:Ctx} {Q:Exit→Act→World→Prop} {T:List (Nat×AV)} {H:List (Nat×AObj)} {M:List Nat}
theorem Run_nilrow {te:TypeId}{code:Code}{t:Nat}(b k:Nat)(ht:get T t=some (.pl (.slice none 0 0)))(hb:hget H b=none)(h:Run c Q code ⟨(t,.sl b 0 0)::T,(b,.row te k 0 [])::H,M⟩):Run c Q code ⟨T,H,M⟩:=
 fun a w hs=>h a w (hs.nilrow b k ht hb)
end
end Go.Abs
set_option linter.unusedVariables false
set_option linter.unusedSimpArgs false
namespace Go.Abs
open Go
variable [GTab]
section
variable {c:Ctx} {s:St} {d:Option Tmp} {ty:TypeId} {pos:String} {af:Array Edge} {g:Option (Nat×Bool)}
theorem q_builtin {b:Builtin}{xs:List Operand}{argTs:Array TypeId}{r:AV}(h: ∀ a w β,SatB c s β a w→ ∃ v,VRel c.F β w r v∧ ∀ w',RowKit.Below w.heap.size w w'→(builtin b argTs ty (xs.toArray.map fun| .const _=>true|_=>false) (xs.toArray.map a.eval)).run c.P w'= .ok (.value v) w'):
 QOp c ⟨d,.call {callee:= .builtin b,args:=xs.toArray,argTypes:=argTs},ty,pos,af,g⟩ s r:=by
 intro a w β hs
 obtain ⟨v,hv,hr⟩:=h a w β hs;refine ⟨v,hv,fun w' hb=> ?_⟩
 have:=hr w' hb
 simp only [execOp,resolve,Sem.run_bind,Sem.run_pure,Result.andThen_ok,invoke]
 exact this
def lenA:AV→Option Nat
 | .vs n _=>some n
 | .sl _ _ n=>some n
 | .pl (.slice _ n _)=>some n
 |_=>none
theorem VRel.len {F:Nat→Prop}{β:Emb}{w:World}{x:AV}{v:Value}{n:Nat}(h:VRel F β w x v)(hn:lenA x=some n): ∃ A c,v= .slice A n c:=by
 cases x with
 |vs m cs=>cases hn;obtain ⟨A,c,rfl,_⟩:=h.vs_inv;exact ⟨A,c,rfl⟩
 |sl b o m=>
  cases hn
  obtain ⟨p,_,⟨_,c,rfl,_⟩|⟨rfl,_,rfl⟩⟩:=h.sl_inv
  ·exact ⟨_,c,rfl⟩
  ·exact ⟨_,_,rfl⟩
 |pl u=>
  obtain rfl:=h.pl_eq;unfold lenA at hn
  split at hn
  all_goals first
   |(cases hn;done)
   |(rename_i heq;cases heq;done)
   |skip
  rename_i heq
  cases heq
  cases hn
  exact ⟨_,_,rfl⟩
 |_=>cases hn
theorem q_len {t:TypeId}{x:Operand}{ax:AV}{n:Nat}{ti:TI}{e:TypeId}(ht:tget c.U t=some ti)(htd:ti.desc= .slice e)(hx:opv s.T x=some ax)(hn:lenA ax=some n):
 QOp c ⟨d,.call {callee:= .builtin .len,args:= #[x],argTypes:= #[t]},ty,pos,af,g⟩ s (.pl (.int .i64 (n:Int))):=by
 refine q_builtin (xs:=[x]) fun a w β hs=>⟨_,.c (.pl _),fun w' _=> ?_⟩
 have hu:=zx ht
 rw [htd] at hu
 obtain ⟨A,cap,hv⟩:=(hs.op hx).len hn
 simp [builtin,Builtin.len_,run_underlying hu,hv,goInt]
theorem q_len_str {t:TypeId}{x:Operand}{b:ByteArray}{ti:TI}(ht:tget c.U t=some ti)(htd:ti.desc= .string)(hx:opv s.T x=some (.pl (.string b))):
 QOp c ⟨d,.call {callee:= .builtin .len,args:= #[x],argTypes:= #[t]},ty,pos,af,g⟩ s (.pl (.int .i64 (b.size:Int))):=by
 refine q_builtin (xs:=[x]) fun a w β hs=>⟨_,.c (.pl _),fun w' _=> ?_⟩
 have hu:=zx ht
 rw [htd] at hu
 simp [builtin,Builtin.len_,run_underlying hu,hs.pl hx,goInt]
theorem q_index_str {t:TypeId}{x y:Operand}{b:ByteArray}{k:IntKind}{i:Nat}{ti:TI}(ht:tget c.U t=some ti)(htd:ti.desc= .string)(hx:opv s.T x=some (.pl (.string b)))(hy:opv s.T y=some (.pl (.int k (i:Int))))(hi:i<b.size):
 QOp c ⟨d,.index t x y,ty,pos,af,g⟩ s (.pl (.int .u8 ((b[i]'hi).toNat:Int))):=by
 intro a w β hs
 have hu:=zx ht
 rw [htd] at hu
 refine ⟨_,.c (.pl _),fun w' _=> ?_⟩
 simp [execOp,Instr.index,asIntOf,run_underlying hu,hs.pl hx,hs.pl hy,hi]
def bnd (T:List (Nat×AV))(dflt:Int):Option Operand→Option Int
 |none=>some dflt
 |some o=>match opv T o with
  |some (.pl (.int _ i))=>some i
  |_=>none
theorem run_bnd {P:Program}{w:World}{c:Ctx}{s:St}{β:Emb}{a:Act}{w0:World}(hs:SatB c s β a w0){dflt i:Int}{o:Option Operand}(h:bnd s.T dflt o=some i):
 (o=none∧i=dflt)∨ ∃ q k,o=some q∧a.eval q= .int k i:=by
 cases o with
 |none=>cases h;exact .inl ⟨rfl,rfl⟩
 |some q=>
  simp only [bnd] at h
  split at h
  ·rename_i k j hq
   cases h
   exact .inr ⟨q,k,rfl,hs.pl hq⟩
  ·cases h
theorem run_sliceBounds {P:Program}{w:World}{isS:Bool}{len cap:Nat}{lo hi:Option Value}{l h:Nat}(hlo:(lo=none∧l=0)∨ ∃ k,lo=some (.int k (l:Int)))(hhi:(hi=none∧h=len)∨ ∃ k,hi=some (.int k (h:Int)))(hl:l≤h)(hc:h≤cap):
 (Instr.sliceBounds isS len cap lo hi none).run P w= .ok (l,h,cap) w:=by
 have hh:((match hi,(none:Option Value) with
  |some v,some _=>Instr.sliceBound v cap .slice3B
  |some v,none=>Instr.sliceBound v cap (if isS then .sliceAcap else .sliceAlen)
  |none,none=>pure len
  |none,some _=>stuck "Slice: max without high"):Sem Nat).run P w= .ok h w:=by
  rcases hhi with ⟨rfl,rfl⟩|⟨k,rfl⟩
  ·rfl
  ·simp [Instr.sliceBound,asIntOf,hc]
 have hll:((match lo with
  |some v=>Instr.sliceBound v h .sliceB
  |none=>pure 0):Sem Nat).run P w= .ok l w:=by
  rcases hlo with ⟨rfl,rfl⟩|⟨k,rfl⟩
  ·rfl
  ·simp [Instr.sliceBound,asIntOf,hl]
 rcases hlo with ⟨rfl,rfl⟩|⟨k,rfl⟩<;>rcases hhi with ⟨rfl,rfl⟩|⟨k',rfl⟩<;>simp [Instr.sliceBounds,Instr.sliceBound,asIntOf,hc,hl]
theorem s_slice_str {t:TypeId}{x:Operand}{lo hi:Option Operand}{b:ByteArray}{l h:Nat}{ti:TI}(ht:tget c.U t=some ti)(htd:ti.desc= .string)(hx:opv s.T x=some (.pl (.string b)))
 (hlo:bnd s.T 0 lo=some (l:Int)) (hhi:bnd s.T (b.size:Int) hi=some (h:Int)) (hl:l≤h) (hh:h≤b.size):QOpS c ⟨d,.slice t x lo hi none,ty,pos,af,g⟩ s (.pl (.string (b.extract l h))):=by
 intro a w β hs
 have hu:=zx ht
 rw [htd] at hu
 refine ⟨_,.c (.pl _),fun w'=> ?_⟩
 have h1:(lo.map a.eval=none∧l=0)∨ ∃ k,lo.map a.eval=some (.int k (l:Int)):=by
  rcases run_bnd (P:=c.P) (w:=w) hs hlo with ⟨rfl,h0⟩|⟨q,k,rfl,hq⟩
  ·exact .inl ⟨rfl,by omega⟩
  ·exact .inr ⟨k,by simp [hq]⟩
 have h2:(hi.map a.eval=none∧h=b.size)∨ ∃ k,hi.map a.eval=some (.int k (h:Int)):=by
  rcases run_bnd (P:=c.P) (w:=w) hs hhi with ⟨rfl,h0⟩|⟨q,k,rfl,hq⟩
  ·exact .inl ⟨rfl,by omega⟩
  ·exact .inr ⟨k,by simp [hq]⟩
 simp [execOp,Instr.sliceAt,Instr.slice,run_underlying hu,hs.pl hx,run_sliceBounds h1 h2 hl hh]
theorem q_slice_str {t:TypeId}{x:Operand}{lo hi:Option Operand}{b:ByteArray}{l h:Nat}{ti:TI}(ht:tget c.U t=some ti)(htd:ti.desc= .string)(hx:opv s.T x=some (.pl (.string b)))
 (hlo:bnd s.T 0 lo=some (l:Int)) (hhi:bnd s.T (b.size:Int) hi=some (h:Int)) (hl:l≤h) (hh:h≤b.size):QOp c ⟨d,.slice t x lo hi none,ty,pos,af,g⟩ s (.pl (.string (b.extract l h))):=(s_slice_str ht htd hx hlo hhi hl hh).later
theorem s_slice_vs {t:TypeId}{x:Operand}{lo hi:Option Operand}{n:Nat}{cs ds:List AV}{l h:Nat}{ti ei:TI}{e:TypeId}(ht:tget c.U t=some ti)(htd:ti.desc= .slice e)(he:tget c.U e=some ei)(hx:opv s.T x=some (.vs n cs))
 (hlo:bnd s.T 0 lo=some (l:Int)) (hhi:bnd s.T (n:Int) hi=some (h:Int)) (hl:l≤h) (hh:h≤n) (hds:(cs.drop (l*ei.size)).take ((h-l)*ei.size)=ds):QOpS c ⟨d,.slice t x lo hi none,ty,pos,af,g⟩ s (.vs (h-l) ds):=by
 intro a w β hs
 have hu:=zx ht
 rw [htd] at hu
 have h1:(lo.map a.eval=none∧l=0)∨ ∃ k,lo.map a.eval=some (.int k (l:Int)):=by
  rcases run_bnd (P:=c.P) (w:=w) hs hlo with ⟨rfl,h0⟩|⟨q,k,rfl,hq⟩
  ·exact .inl ⟨rfl,by omega⟩
  ·exact .inr ⟨k,by simp [hq]⟩
 have h2:(hi.map a.eval=none∧h=n)∨ ∃ k,hi.map a.eval=some (.int k (h:Int)):=by
  rcases run_bnd (P:=c.P) (w:=w) hs hhi with ⟨rfl,h0⟩|⟨q,k,rfl,hq⟩
  ·exact .inl ⟨rfl,by omega⟩
  ·exact .inr ⟨k,by simp [hq]⟩
 obtain ⟨A,cap,hv,hcap,hmem⟩:=(hs.op hx).vs_inv
 have hrun: ∀ w',(execOp a.eval ⟨d,.slice t x lo hi none,ty,pos,af,g⟩).run c.P w'= .ok (.value (.slice (if cap=l then A else A.map (·.add (l*ei.size))) (h-l) (cap-l))) w':=fun w'=>by
  simp [execOp,Instr.sliceAt,Instr.slice,run_underlying hu,hv,run_sliceBounds h1 h2 hl (Nat.le_trans hh hcap),QS he]
 refine ⟨_,.c ?_,fun w'=>hrun w'⟩
 have hdl: ∀ (i:Nat) (y:AV),ds[i]? =some y→i<(h-l)*ei.size∧cs[l*ei.size+i]? =some y:=fun i y hy=>by
  subst hds
  have hi:=(List.getElem?_eq_some_iff.1 hy).1
  simp at hi
  rw [List.getElem?_take_of_lt (by omega),List.getElem?_drop] at hy
  exact ⟨by omega,hy⟩
 by_cases hhl:h=l
 ·subst hhl
  have:ds=[]:=by subst hds;simp
  subst this
  rw [Nat.sub_self]
  exact .vs0
 ·have hne:cap≠l:=by omega
  rw [if_neg hne]
  rcases hmem with h0|⟨blk,o,rfl,ho,hb,hm⟩
  ·omega
  ·simp only [Option.map_some,a_add]
   refine VRel.vs_mk (by omega) ho hb fun i y hy=> ?_
   rw [Nat.add_assoc]
   exact hm _ y (hdl i y hy).2
theorem q_slice_vs {t:TypeId}{x:Operand}{lo hi:Option Operand}{n:Nat}{cs ds:List AV}{l h:Nat}{ti ei:TI}{e:TypeId}(ht:tget c.U t=some ti)(htd:ti.desc= .slice e)(he:tget c.U e=some ei)(hx:opv s.T x=some (.vs n cs))
 (hlo:bnd s.T 0 lo=some (l:Int)) (hhi:bnd s.T (n:Int) hi=some (h:Int)) (hl:l≤h) (hh:h≤n) (hds:(cs.drop (l*ei.size)).take ((h-l)*ei.size)=ds):QOp c ⟨d,.slice t x lo hi none,ty,pos,af,g⟩ s (.vs (h-l) ds):=(s_slice_vs ht htd he hx hlo hhi hl hh hds).later
theorem s_slice_part {te:TypeId}{t:TypeId}{x:Operand}{lo hi:Option Operand}{b o n l h o':Nat}{k fz:Nat}{cs:List AV}{ti ei:TI}{e:TypeId}(ht:tget c.U t=some ti)(htd:ti.desc= .slice e)(he:tget c.U e=some ei)(hx:opv s.T x=some (.sl b o n))
 (hb:hget s.H b=some (.row te k fz cs)) (hk:ei.size=k)
 (hlo:bnd s.T 0 lo=some (l:Int)) (hhi:bnd s.T (n:Int) hi=some (h:Int)) (hl:l≤h) (hh:h≤n) (ho':o+l*k=o'):QOpS c ⟨d,.slice t x lo hi none,ty,pos,af,g⟩ s (.sl b o' (h-l)):=by
 intro a w β hs
 have hu:=zx ht
 rw [htd] at hu
 have h1:(lo.map a.eval=none∧l=0)∨ ∃ k,lo.map a.eval=some (.int k (l:Int)):=by
  rcases run_bnd (P:=c.P) (w:=w) hs hlo with ⟨rfl,h0⟩|⟨q,k,rfl,hq⟩
  ·exact .inl ⟨rfl,by omega⟩
  ·exact .inr ⟨k,by simp [hq]⟩
 have h2:(hi.map a.eval=none∧h=n)∨ ∃ k,hi.map a.eval=some (.int k (h:Int)):=by
  rcases run_bnd (P:=c.P) (w:=w) hs hhi with ⟨rfl,h0⟩|⟨q,k,rfl,hq⟩
  ·exact .inl ⟨rfl,by omega⟩
  ·exact .inr ⟨k,by simp [hq]⟩
 obtain ⟨p,hp,hcase⟩:=(hs.op hx).sl_inv2;obtain ⟨p',hp',hr⟩:=hs.heap.obj b _ hb
 rw [hp] at hp';cases hp'
 obtain ⟨hpk,_,_⟩:=hr
 have hrun: ∀ A cap,a.eval x= .slice A n cap→n≤cap→ ∀ w',(execOp a.eval ⟨d,.slice t x lo hi none,ty,pos,af,g⟩).run c.P w'= .ok (.value (.slice (if cap=l then A else A.map (·.add (l*ei.size))) (h-l) (cap-l))) w':=fun A cap hv hcap w'=>by
  simp [execOp,Instr.sliceAt,Instr.slice,run_underlying hu,hv,run_sliceBounds h1 h2 hl (Nat.le_trans hh hcap),QS he]
 subst ho'
 rcases hcase with ⟨hn,cap,hv,hcap,hlim⟩|⟨rfl,A0,hv,hA0⟩
 ·refine ⟨_,?_,fun w'=>hrun _ _ hv hcap w'⟩
  by_cases hc0:cap=l
  ·have:h=l:=by omega
   subst this
   subst hc0
   rw [if_pos rfl,Nat.sub_self]
   exact .slz hp (fun ad h=>by cases h;exact ⟨hn,rfl⟩)
  ·rw [if_neg hc0,hk]
   simp only [Option.map_some,a_add,Nat.add_assoc]
   refine .sl hp hn (by omega) ?_
   have:(cap-l)*p.k+l*k=cap*p.k:=by rw [hpk,←Nat.add_mul];congr 1;omega
   omega
 ·have hl0:l=0:=by omega
  have hh0:h=0:=by omega
  subst hl0;subst hh0
  refine ⟨_,?_,fun w'=>hrun _ _ hv (Nat.le_refl _) w'⟩;exact VRel.slz hp hA0
theorem q_slice_part {te:TypeId}{t:TypeId}{x:Operand}{lo hi:Option Operand}{b o n l h o':Nat}{k fz:Nat}{cs:List AV}{ti ei:TI}{e:TypeId}(ht:tget c.U t=some ti)(htd:ti.desc= .slice e)(he:tget c.U e=some ei)(hx:opv s.T x=some (.sl b o n))
 (hb:hget s.H b=some (.row te k fz cs)) (hk:ei.size=k)
 (hlo:bnd s.T 0 lo=some (l:Int)) (hhi:bnd s.T (n:Int) hi=some (h:Int)) (hl:l≤h) (hh:h≤n) (ho':o+l*k=o'):QOp c ⟨d,.slice t x lo hi none,ty,pos,af,g⟩ s (.sl b o' (h-l)):=(s_slice_part ht htd he hx hb hk hlo hhi hl hh ho').later
theorem q_makeFunc {f:Fn}{first cap:Array Operand}{l1 l2:List AV}(h1:opvL s.T first.toList=some l1)(h2:opvL s.T cap.toList=some l2):QOp c ⟨d,.makeFunc f first cap,ty,pos,af,g⟩ s (.fn f l1 l2):=by
 intro a w β hs
 obtain ⟨n1,q1⟩:=opvL_get hs h1;obtain ⟨n2,q2⟩:=opvL_get hs h2;refine ⟨.func f (first.map a.eval) (cap.map a.eval),.fn (by simpa using n1) (fun i x v hx hv=>q1 i x v hx (by simpa using hv)) (by simpa using n2) (fun i x v hx hv=>q2 i x v hx (by simpa using hv)),fun w' _=>rfl⟩
theorem q_makeInterface {t:TypeId}{x:Operand}{ax:AV}{ti:TI}(ht:tget c.U t=some ti)(hni:(match ti.desc with| .interface _=>true|_=>false)=false)(hx:opv s.T x=some ax):QOp c ⟨d,.makeInterface t x,ty,pos,af,g⟩ s (.ifc t ax):=by
 intro a w β hs
 refine ⟨.iface t (a.eval x),.ifc (hs.op hx),fun w' _=> ?_⟩
 have hu:=zx ht
 simp only [execOp,Instr.makeInterface,Sem.run_bind,run_underlying hu,Result.andThen_ok]
 cases hd:ti.desc<;>simp_all
def fillA (pl:Nat→Option (Nat×Nat)):List AV→List (Nat×AV)→Option (List AV)
 |cs,[]=>some cs
 |cs,(i,x)::r=>match pl i with
  |none=>none
  |some (o,n)=>match Nat.beq (cellsA x).length n with
   |false=>none
   |true=>match fit x with
    |false=>none
    |true=>match Nat.ble (o+n) cs.length with
     |false=>none
     |true=>fillA pl (updL cs o (cellsA x)) r
def partsA (T:List (Nat×AV)):List (Nat×Operand)→Option (List (Nat×AV))
 |[]=>some []
 |(i,x)::r=>match opv T x with
  |none=>none
  |some ax=>match partsA T r with
   |none=>none
   |some l=>some ((i,ax)::l)
def placeOf (U:List (Nat×TI))(fs:Array Field)(i:Nat):Option (Nat×Nat):=
 match fs[i]? with
 |none=>none
 |some f=>match tget U f.type with
  |none=>none
  |some ti=>some (f.offset,ti.size)
def fsOk (U:List (Nat×TI)):List Field→Bool
 |[]=>true
 |f::r=>(tget U f.type).isSome&&fsOk U r
theorem fsOk_get {U:List (Nat×TI)}: ∀ {l:List Field},fsOk U l=true→ ∀ f∈l,(tget U f.type).isSome=true
 |[],_,f,hf=>by simp at hf
 |x::r,h,f,hf=>by
  simp only [fsOk,Bool.and_eq_true] at h
  rcases List.mem_cons.1 hf with rfl|hf
  ·exact h.1
  ·exact fsOk_get h.2 f hf
theorem fillA_spec {F:Nat→Prop}{β:Emb}{w:World}{pl:Nat→Option (Nat×Nat)}{pl':Nat→Option (Nat×Nat)}(hpl: ∀ i q,pl i=some q→pl' i=some q): ∀ {ps:List (Nat×AV)} {vs:List (Nat×Value)} {cs ds:List AV} {cv:Array Value},
 ps.length=vs.length→(∀ (i:Nat) (p:Nat×AV) (v:Nat×Value),ps[i]? =some p→vs[i]? =some v→p.1=v.1∧VRel F β w p.2 v.2)→fillA pl cs ps=some ds→cs.length=cv.size→(∀ (i:Nat) (x:AV) (v:Value),cs[i]? =some x→cv[i]? =some v→VRel F β w x v)→
 ∃ dv,Instr.fill pl' cv vs=some dv∧ds.length=dv.size∧ ∀ (i:Nat) (x:AV) (v:Value),ds[i]? =some x→dv[i]? =some v→VRel F β w x v
 |[],[],cs,ds,cv,_,_,h,hl,hr=>by cases h;exact ⟨cv,rfl,hl,hr⟩
 |[],v::r,_,_,_,hlen,_,_,_,_=>by simp at hlen
 |p::r,[],_,_,_,hlen,_,_,_,_=>by simp at hlen
 |(i,x)::r,(j,v)::vr,cs,ds,cv,hlen,hp,h,hl,hr=>by
  obtain ⟨rfl,hx⟩:=hp 0 (i,x) (j,v) rfl rfl
  simp only at hx
  simp only [fillA] at h
  split at h
  ·cases h
  rename_i o n hpi
  split at h
  ·cases h
  rename_i hb
  split at h
  ·cases h
  rename_i hf
  split at h
  ·cases h
  rename_i hle
  have hn:=Nat.eq_of_beq_eq_true hb
  have hle:=Nat.le_of_ble_eq_true hle
  obtain ⟨hc1,hc2⟩:=hx.cells hf
  have hcv: ¬ (v.cells.size≠n∨o+v.cells.size>cv.size):=by omega
  have hstep:v.cells.zipIdx.foldl (fun cs (x:Value×Nat)=>cs.setIfInBounds (o+x.2) x.1) cv=wr cv o v.cells.toList:=by
   rw [←Array.foldl_toList,Array.toList_zipIdx,foldl_wr];rfl
  obtain ⟨dv,h1,h2,h3⟩:=fillA_spec hpl (cv:=wr cv o v.cells.toList) (ps:=r) (vs:=vr) (by simpa using hlen) (fun k p u hk hu=>hp (k+1) p u (by simpa using hk) (by simpa using hu)) h
   (by rw [qS,updL_length (by omega)];exact hl) (fun k y u hy hu=>by
    rw [updL_get (by omega)] at hy
    rw [wr_get _ _ _ _ (by simp;omega)] at hu
    simp only [Array.length_toList] at hu
    by_cases hk:o≤k∧k<o+(cellsA x).length
    ·rw [if_pos hk] at hy
     rw [if_pos (by omega)] at hu
     obtain ⟨u',hu',hr',_⟩:=hc2 _ y hy
     simp at hu
     rw [hu] at hu';cases hu';exact hr'
    ·rw [if_neg hk] at hy
     rw [if_neg (by omega)] at hu
     exact hr k y u hy hu)
  refine ⟨dv,?_,h2,h3⟩
  simp only [Instr.fill,hpl i _ hpi]
  rw [if_neg (by simpa using hcv)]
  exact (congrArg (fun c'=>Instr.fill pl' c' vr) hstep).trans h1
theorem partsA_spec {a:Act}{w:World}{β:Emb}(hs:SatB c s β a w): ∀ {ps:List (Nat×Operand)} {l:List (Nat×AV)},partsA s.T ps=some l→l.length=(ps.map fun (i,x)=>(i,a.eval x)).length∧
 ∀ (i:Nat) (p:Nat×AV) (v:Nat×Value),l[i]? =some p→(ps.map fun (i,x)=>(i,a.eval x))[i]? =some v→p.1=v.1∧VRel c.F β w p.2 v.2
 |[],l,h=>by cases h;exact ⟨rfl,by simp⟩
 |(j,x)::r,l,h=>by
  simp only [partsA] at h
  split at h
  ·cases h
  rename_i ax hax
  split at h
  ·cases h
  rename_i l1 h1
  cases h
  obtain ⟨hl,hall⟩:=partsA_spec hs h1;refine ⟨by simpa using hl,fun i p v hp hv=> ?_⟩
  cases i with
  |zero=>simp at hp hv;subst hp;subst hv;exact ⟨rfl,hs.op hax⟩
  |succ i=>exact hall i p v (by simpa using hp) (by simpa using hv)
theorem q_build {t:TypeId}{parts:Array (Nat×Operand)}{ps:List (Nat×AV)}{zs ds:List AV}{ti:TI}{fs:Array Field}(ht:tget c.U t=some ti)(htd:ti.desc= .struct fs)(hfs:fsOk c.U fs.toList=true)(hz:cellsA (ofVal ti.zero)=zs)(hzf:fit (ofVal ti.zero)=true)
 (hps:partsA s.T parts.toList=some ps) (hfill:fillA (placeOf c.U fs) zs ps=some ds):QOp c ⟨d,.build t parts,ty,pos,af,g⟩ s (.agg ds):=by
 intro a w β hs
 have hu:=zx ht
 rw [htd] at hu
 obtain ⟨hpl,hpr⟩:=partsA_spec hs hps
 have hz0:VRel c.F β w (ofVal ti.zero) ti.zero:= .c (CRel.ofVal _ _ _)
 obtain ⟨hzl,hzc⟩:=hz0.cells hzf
 rw [hz] at hzl hzc
 -- the places of the fields
 have hplaces: ∃ pls:Array (Nat×Nat),(∀ w',(fs.mapM fun f=>(do pure (f.offset,←sizeOf f.type):Sem (Nat×Nat))).run c.P w'= .ok pls w')∧ ∀ i q,placeOf c.U fs i=some q→pls[i]? =some q:=by
  have hlist: ∀ l:List Field,(∀ f∈l,(tget c.U f.type).isSome=true)→ ∃ pls:List (Nat×Nat),(∀ w',(l.mapM fun f=>(do pure (f.offset,←sizeOf f.type):Sem (Nat×Nat))).run c.P w'= .ok pls w')∧pls.length=l.length∧ ∀ (i:Nat) (f:Field) (q:TI),l[i]? =some f→tget c.U f.type=some q→pls[i]? =some (f.offset,q.size):=by
   intro l
   induction l with
   |nil=>intro _;exact ⟨[],fun _=>rfl,rfl,by simp⟩
   |cons f r ih=>
    intro h
    obtain ⟨pls,h1,h2,h3⟩:=ih (fun f' hf'=>h f' (by simp [hf']));obtain ⟨q,hq⟩:=Option.isSome_iff_exists.1 (h f (by simp));refine ⟨(f.offset,q.size)::pls,fun w'=> ?_,by simp [h2],fun i f' q' hf' hq'=> ?_⟩
    ·rw [List.mapM_cons]
     simp only [Sem.run_bind,QS hq,Result.andThen_ok,Sem.run_pure,h1]
    ·cases i with
     |zero=>simp at hf';subst hf';rw [hq] at hq';cases hq';rfl
     |succ i=>simpa using h3 i f' q' (by simpa using hf') hq'
  obtain ⟨pls,h1,h2,h3⟩:=hlist fs.toList (fsOk_get hfs);refine ⟨pls.toArray,fun w'=> ?_,fun i q hq=> ?_⟩
  ·have:(fs.mapM fun f=>(do pure (f.offset,←sizeOf f.type):Sem (Nat×Nat)))=List.toArray <$> fs.toList.mapM fun f=>(do pure (f.offset,←sizeOf f.type):Sem (Nat×Nat)):=by
    rw [←List.mapM_toArray,Array.toArray_toList]
   rw [this]
   simp only [Sem.run_map,h1,Result.andThen_ok]
  ·unfold placeOf at hq
   split at hq
   ·cases hq
   rename_i f hf
   split at hq
   ·cases hq
   rename_i q' hq'
   cases hq
   simpa using h3 i f q' (by simpa using hf) hq'
 obtain ⟨pls,hrunp,hpls⟩:=hplaces
 obtain ⟨dv,h1,h2,h3⟩:=fillA_spec (F:=c.F) (β:=β) (w:=w) (pl':=(pls[·]?)) hpls (vs:=parts.toList.map fun (i,x)=>(i,a.eval x)) (cv:=ti.zero.cells) hpl hpr hfill hzl (fun i x v hx hv=>by
  obtain ⟨u,hu',hr,_⟩:=hzc i x hx
  rw [hv] at hu';cases hu';exact hr)
 refine ⟨.agg dv,.agg h2 h3,fun w' _=> ?_⟩
 have hp:(parts.map fun (i,x)=>(i,a.eval x)).toList=parts.toList.map fun (i,x)=>(i,a.eval x):=by simp
 simp only [execOp,Instr.build,Sem.run_bind,ty_zero ht,Result.andThen_ok,run_underlying hu,hrunp,hp,h1,Sem.run_pure]
end
section
variable {c:Ctx} {Q:Exit→Act→World→Prop} {s:St} {ops:Array Oper} {rest:List Oper} {o:Oper}
end
end Go.Abs
namespace Go.Abs
open Go
variable [GTab]
def TabOk (P:Program)(U:List (Nat×TI)):Prop:= ∀ t i,tget U t=some i→P.underlying t=some i.desc∧ ∃ info,P.info? t=some info∧info.size=i.size∧info.bytes=i.bytes∧info.zero=some i.zero
theorem TabOk.nil (P:Program):TabOk P []:=fun _ _ h=>by cases h
theorem TabOk.cons {P:Program}{U:List (Nat×TI)}{t:Nat}{d:TypeDesc}{sz by_:Nat}{z:Value}(h1:P.underlying t=some d)(h2:(P.info? t).map (fun i=>(i.size,i.bytes,i.zero))=some (sz,by_,some z))(h:TabOk P U):
 TabOk P ((t,⟨d,sz,by_,z⟩)::U):=by
 intro t' i hi
 simp only [tget] at hi
 split at hi
 ·rename_i hb
  obtain rfl:=Nat.eq_of_beq_eq_true hb
  cases hi
  refine ⟨h1,?_⟩;obtain ⟨info,hinfo,he⟩:=Option.map_eq_some_iff.1 h2
  simp only [Prod.mk.injEq] at he
  exact ⟨info,hinfo,he.1,he.2.1,he.2.2⟩
 ·exact h t' i hi
end Go.Abs
namespace Go.Abs
open Go
variable [GTab]
section
variable {c:Ctx} {s:St} {d:Option Tmp} {ty:TypeId} {pos:String} {af:Array Edge} {g:Option (Nat×Bool)}
theorem s_indexAddr_vsI {t:TypeId}{x y:Operand}{n:Nat}{cs:List AV}{k:IntKind}{i:Int}{ti ei:TI}{e:TypeId}(ht:tget c.U t=some ti)(htd:ti.desc= .slice e)(he:tget c.U e=some ei)
 (hx:opv s.T x=some (.vs n cs)) (hy:opv s.T y=some (.pl (.int k i))) (hi:0≤i∧i<n):QOpS c ⟨d,.indexAddr t x y,ty,pos,af,g⟩ s (.vptr (cs.drop (i.toNat*ei.size))):=by
 have h:((i.toNat:Nat):Int)=i:=Int.toNat_of_nonneg hi.1
 rw [←h] at hy
 exact s_indexAddr_vs ht htd he hx hy (by omega)
end
end Go.Abs
set_option linter.unusedVariables false
namespace Go.Abs
open Go
variable [GTab]
theorem mem_append (b:Nat): ∀ (l l':List Nat),mem b (l++l')=(mem b l||mem b l')
 |[],l'=>by simp [mem]
 |x::r,l'=>by rw [List.cons_append,mem_cons,mem_cons,mem_append b r l',Bool.or_assoc]
section
variable {P:Program} {U:List (Nat×TI)} {hU: ∀ t i,tget U t=some i→P.underlying t=some i.desc∧ ∃ info,P.info? t=some info∧info.size=i.size∧info.bytes=i.bytes∧info.zero=some i.zero}
 {F:Nat→Prop} {β:Emb} {w0:World} {N:Nat} {fn:Func} {T:List (Nat×AV)} {H:List (Nat×AObj)} {M:List Nat} {r r':AV}
end
section
variable {c:Ctx} {Q:Exit→Act→World→Prop} {T:List (Nat×AV)} {H:List (Nat×AObj)} {M:List Nat} {ops:Array Oper} {rest:List Oper} {op:Op} {d:Tmp} {ty:TypeId} {pos:String} {af:Array Edge} {j:Nat} {b:Bool} {q:Nat}
theorem RL_on (hj:((ops[j]?).bind (·.dst))=some q)(hx:get T q=some (.pl (.bool b)))(h:RunL c ops Q (⟨some d,op,ty,pos,af,none⟩::rest) ⟨T,H,M⟩):RunL c ops Q (⟨some d,op,ty,pos,af,some (j,b)⟩::rest) ⟨T,H,M⟩:=
 RunL_on (s:=⟨T,H,M⟩) rfl hj hx h
theorem RL_split {e:Bool}(hj:((ops[j]?).bind (·.dst))=some q)(hx:get T q=some (.pl (.bool e)))(ht:e=true→RunL c ops Q (⟨some d,op,ty,pos,af,some (j,b)⟩::rest) ⟨(q,.pl (.bool true))::T,H,M⟩)
 (hf:e=false→RunL c ops Q (⟨some d,op,ty,pos,af,some (j,b)⟩::rest) ⟨(q,.pl (.bool false))::T,H,M⟩):RunL c ops Q (⟨some d,op,ty,pos,af,some (j,b)⟩::rest) ⟨T,H,M⟩:=
 RunL_split (s:=⟨T,H,M⟩) rfl hj hx ht hf
end
end Go.Abs
set_option linter.unusedVariables false
namespace Go.Abs
open Go
variable [GTab]
mutual
def AV.mapN (f:AV→AV):AV→AV
 | .agg cs=> .agg (AV.mapNL f cs)
 | .tup cs=> .tup (AV.mapNL f cs)
 | .fn g cs ds=> .fn g (AV.mapNL f cs) (AV.mapNL f ds)
 | .ifc t x=> .ifc t (AV.mapN f x)
 | .nptr z b o=>f (.nptr z b o)
 | .sl b o n=>f (.sl b o n)
 | .mp b=>f (.mp b)
 | .it b=>f (.it b)
 |x=>x
def AV.mapNL (f:AV→AV):List AV→List AV
 |[]=>[]
 |x::r=>AV.mapN f x::AV.mapNL f r
end
theorem AV.mapNL_length (f:AV→AV): ∀ l,(AV.mapNL f l).length=l.length
 |[]=>rfl
 |x::r=>by simp [AV.mapNL,AV.mapNL_length f r]
theorem AV.mapNL_get (f:AV→AV): ∀ (l:List AV) (i:Nat) (y:AV),(AV.mapNL f l)[i]? =some y→ ∃ x,l[i]? =some x∧y=x.mapN f
 |[],i,y,h=>by simp [AV.mapNL] at h
 |x::r,0,y,h=>by simp [AV.mapNL] at h;exact ⟨x,rfl,h.symm⟩
 |x::r,i+1,y,h=>by
  simp only [AV.mapNL,List.getElem?_cons_succ] at h
  simpa using AV.mapNL_get f r i y h
def AV.leaf:AV→Bool
 | .nptr _ _ _| .sl _ _ _| .mp _| .it _=>true
 |_=>false
theorem VRel.mapN {F F':Nat→Prop}{β β':Emb}{w w':World}{f:AV→AV}(hs:w.heap.size≤w'.heap.size)(hO: ∀ b,off F' β' b→off F β b∨w.heap.size≤b)
 (hw: ∀ b,b<w.heap.size→ ¬ off F β b→w'.heap[b]? =w.heap[b]?) (hleaf: ∀ x v,x.leaf=true→VRel F β w x v→VRel F' β' w' (f x) v) {x:AV} {v:Value} (h:VRel F β w x v):VRel F' β' w' (x.mapN f) v:=by
 induction h with
 | @c x v h=>
  have hc: ∀ {y u},CRel (off F β) w y u→VRel F' β' w' (y.mapN f) u:=by
   intro y u hy
   induction hy with
   |pl v=>exact .c (.pl v)
   |agg hl _ ih=>exact .agg (by rw [AV.mapNL_length];exact hl) (fun i x v hx hv=>by obtain ⟨y,hy,rfl⟩:=AV.mapNL_get _ _ _ _ hx;exact ih i y v hy hv)
   |tup hl _ ih=>exact .tup (by rw [AV.mapNL_length];exact hl) (fun i x v hx hv=>by obtain ⟨y,hy,rfl⟩:=AV.mapNL_get _ _ _ _ hx;exact ih i y v hy hv)
   |fn hl _ hl2 _ ih ih2=>
    exact .fn (by rw [AV.mapNL_length];exact hl) (fun i x v hx hv=>by obtain ⟨y,hy,rfl⟩:=AV.mapNL_get _ _ _ _ hx;exact ih i y v hy hv)
     (by rw [AV.mapNL_length];exact hl2) (fun i x v hx hv=>by obtain ⟨y,hy,rfl⟩:=AV.mapNL_get _ _ _ _ hx;exact ih2 i y v hy hv)
   |ifc _ ih=>exact .ifc ih
   |vptr f hc ho hb h ih=>exact .c ((CRel.vptr f hc ho hb h).mono hs hO hw)
   |vnil=>exact .c .vnil
   |vs0=>exact .c .vs0
   |vs hn f hc ho hb h ih=>exact .c ((CRel.vs hn f hc ho hb h).mono hs hO hw)
   |vm0=>exact .c .vm0
   |vm ms ck hh ho hb hlk hlx hbn hd hk hx _ _=>exact .c ((CRel.vm ms ck hh ho hb hlk hlx hbn hd hk hx).mono hs hO hw)
  exact hc h
 |agg hl _ ih=>exact .agg (by rw [AV.mapNL_length];exact hl) (fun i x v hx hv=>by obtain ⟨y,hy,rfl⟩:=AV.mapNL_get _ _ _ _ hx;exact ih i y v hy hv)
 |tup hl _ ih=>exact .tup (by rw [AV.mapNL_length];exact hl) (fun i x v hx hv=>by obtain ⟨y,hy,rfl⟩:=AV.mapNL_get _ _ _ _ hx;exact ih i y v hy hv)
 |fn hl _ hl2 _ ih ih2=>
  exact .fn (by rw [AV.mapNL_length];exact hl) (fun i x v hx hv=>by obtain ⟨y,hy,rfl⟩:=AV.mapNL_get _ _ _ _ hx;exact ih i y v hy hv)
   (by rw [AV.mapNL_length];exact hl2) (fun i x v hx hv=>by obtain ⟨y,hy,rfl⟩:=AV.mapNL_get _ _ _ _ hx;exact ih2 i y v hy hv)
 |ifc _ ih=>exact .ifc ih
 |ptr hp hn=>exact hleaf _ _ rfl (.ptr hp hn)
 |pnil=>exact hleaf _ _ rfl .pnil
 |sl hp hn hc hl=>exact hleaf _ _ rfl (.sl hp hn hc hl)
 |slz hp ha=>exact hleaf _ _ rfl (.slz hp ha)
 |mp hp hn=>exact hleaf _ _ rfl (.mp hp hn)
 |it hp hn=>exact hleaf _ _ rfl (.it hp hn)
 |anyp=>exact .anyp
 |junk h=>exact .junk h
 |gone=>exact .gone
def mapT (f:AV→AV):List (Nat×AV)→List (Nat×AV)
 |[]=>[]
 |(i,x)::r=>(i,x.mapN f)::mapT f r
theorem get_mapT (f:AV→AV)(T:List (Nat×AV))(i:Nat):get (mapT f T) i=(get T i).map (AV.mapN f):=by
 induction T with
 |nil=>rfl
 |cons q r ih=>
  obtain ⟨j,x⟩:=q
  simp only [mapT,Qf,ih]
  split<;>rfl
def AObj.mapN (f:AV→AV):AObj→AObj
 | .box tb cs=> .box tb (AV.mapNL f cs)
 |o=>o
def mapH (f:AV→AV):List (Nat×AObj)→List (Nat×AObj)
 |[]=>[]
 |(i,o)::r=>(i,o.mapN f)::mapH f r
theorem hget_mapH (f:AV→AV)(H:List (Nat×AObj))(i:Nat):hget (mapH f H) i=(hget H i).map (AObj.mapN f):=by
 induction H with
 |nil=>rfl
 |cons q r ih=>
  obtain ⟨j,x⟩:=q
  simp only [mapH,qd,ih]
  split<;>rfl
theorem ORel.mapN {F F':Nat→Prop}{β β':Emb}{w w':World}{f:AV→AV}{p:Place}{o:AObj}(hs:w.heap.size≤w'.heap.size)(hO: ∀ b,off F' β' b→off F β b∨w.heap.size≤b)
 (hw: ∀ b,b<w.heap.size→ ¬ off F β b→w'.heap[b]? =w.heap[b]?) (hleaf: ∀ x v,x.leaf=true→VRel F β w x v→VRel F' β' w' (f x) v)
 (hp:p.nil=false→w'.heap[p.blk]? =w.heap[p.blk]?) (h:ORel F β w p o):ORel F' β' w' p (o.mapN f):=by
 cases o with
 |row te k fz cs=>
  obtain ⟨h1,h2,h3⟩:=h;refine ⟨h1,h2,fun hn=> ?_⟩;obtain ⟨cv,fr,ht,h4,h5,h6,h7⟩:=h3 hn;exact ⟨cv,fr,⟨by rw [hp hn];exact ht.1,ht.2⟩,h4,h5,fun i x hx=>let ⟨v,hv,hc,h1c⟩:=h6 i x hx;⟨v,hv,hc.mono hs hO hw,h1c⟩,h7⟩
 |box tb cs=>
  obtain ⟨h1,cv,fr,ht,h5,h6,h7⟩:=h;refine ⟨h1,cv,fr,⟨by rw [hp h1];exact ht.1,ht.2⟩,by rw [AV.mapNL_length];exact h5,fun i x hx=> ?_,h7⟩;obtain ⟨y,hy,rfl⟩:=AV.mapNL_get _ _ _ _ hx;obtain ⟨v,hv,hc,h1c⟩:=h6 i y hy;exact ⟨v,hv,hc.mapN hs hO hw hleaf,h1c⟩
 |map es=>
  obtain ⟨h1,ms,clock,h2,h3,h4,h5⟩:=h;refine ⟨h1,ms,clock,by rw [hp h1];exact h2,h3,fun i x e hx he=> ?_,h5⟩;obtain ⟨q1,q2,q3⟩:=h4 i x e hx he;exact ⟨q1.mono hs hO hw,q2.mono hs hO hw,q3⟩
 |siter sx pos=>exact ⟨h.1,by rw [hp h.1];exact h.2⟩
def cellsOf:AObj→Option (List AV)
 | .row _ _ _ cs=>some cs
 | .box tb cs=>match AV.closedL cs with|true=>some cs|false=>none
 |_=>none
section
variable {c:Ctx} {Q:Exit→Act→World→Prop} {T:List (Nat×AV)} {H:List (Nat×AObj)} {M:List Nat} {code:Code} {ops:Array Oper} {rest:List Oper} {e:Exit}
end
end Go.Abs
set_option linter.unusedVariables false
namespace Go.Abs
open Go
variable [GTab]
mutual
def AV.only (ns:List Nat):AV→Bool
 | .agg cs=>AV.onlyL ns cs
 | .tup cs=>AV.onlyL ns cs
 | .fn _ cs ds=>AV.onlyL ns cs&&AV.onlyL ns ds
 | .ifc _ x=>AV.only ns x
 | .nptr _ b _=>mem b ns
 | .sl b _ _=>mem b ns
 | .mp b=>mem b ns
 | .it b=>mem b ns
 |_=>true
def AV.onlyL (ns:List Nat):List AV→Bool
 |[]=>true
 |x::r=>AV.only ns x&&AV.onlyL ns r
end
theorem AV.onlyL_get {ns:List Nat}: ∀ {l:List AV} (h:AV.onlyL ns l=true) {i:Nat} {x:AV},l[i]? =some x→x.only ns=true
 |[],_,i,x,hx=>by simp at hx
 |y::r,h,0,x,hx=>by simp [AV.onlyL] at h hx;subst hx;exact h.1
 |y::r,h,i+1,x,hx=>by simp [AV.onlyL] at h hx;exact AV.onlyL_get h.2 hx
theorem VRel.only {F F':Nat→Prop}{β β':Emb}{w w':World}{ns:List Nat}(hs:w.heap.size≤w'.heap.size)(hO: ∀ b,off F' β' b→off F β b∨w.heap.size≤b)
 (hw: ∀ b,b<w.heap.size→ ¬ off F β b→w'.heap[b]? =w.heap[b]?) (hβ: ∀ b p,mem b ns=true→β b=some p→β' b=some p) {x:AV} {v:Value} (h:VRel F β w x v) (hn:x.only ns=true):VRel F' β' w' x v:=by
 induction h with
 |c h=>exact .c (h.mono hs hO hw)
 |agg hl _ ih=>exact .agg hl fun i x v hx hv=>ih i x v hx hv (AV.onlyL_get (by simpa [AV.only] using hn) hx)
 |tup hl _ ih=>exact .tup hl fun i x v hx hv=>ih i x v hx hv (AV.onlyL_get (by simpa [AV.only] using hn) hx)
 |fn hl _ hl2 _ ih ih2=>
  simp only [AV.only,Bool.and_eq_true] at hn
  exact .fn hl (fun i x v hx hv=>ih i x v hx hv (AV.onlyL_get hn.1 hx)) hl2 (fun i x v hx hv=>ih2 i x v hx hv (AV.onlyL_get hn.2 hx))
 |ifc _ ih=>exact .ifc (ih (by simpa [AV.only] using hn))
 |ptr hp h=>exact .ptr (hβ _ _ hn hp) h
 |pnil=>exact .pnil
 |sl hp h hc hl=>exact .sl (hβ _ _ hn hp) h hc hl
 |slz hp ha=>exact .slz (hβ _ _ hn hp) ha
 |mp hp h=>exact .mp (hβ _ _ hn hp) h
 |it hp h=>exact .it (hβ _ _ hn hp) h
 |anyp=>exact .anyp
 |junk h=>exact .junk h
 |gone=>exact .gone
def AObj.only (ns:List Nat):AObj→Bool
 | .box tb cs=>AV.onlyL ns cs
 |_=>true
theorem ORel.only {F F':Nat→Prop}{β β':Emb}{w w':World}{ns:List Nat}{p:Place}{o:AObj}(hs:w.heap.size≤w'.heap.size)(hO: ∀ b,off F' β' b→off F β b∨w.heap.size≤b)
 (hw: ∀ b,b<w.heap.size→ ¬ off F β b→w'.heap[b]? =w.heap[b]?) (hβ: ∀ b p,mem b ns=true→β b=some p→β' b=some p)
 (hp:p.nil=false→w'.heap[p.blk]? =w.heap[p.blk]?) (h:ORel F β w p o) (hn:o.only ns=true):ORel F' β' w' p o:=by
 cases o with
 |row te k fz cs=>
  obtain ⟨h1,h2,h3⟩:=h;refine ⟨h1,h2,fun hn=> ?_⟩;obtain ⟨cv,fr,ht,h4,h5,h6,h7⟩:=h3 hn;exact ⟨cv,fr,⟨by rw [hp hn];exact ht.1,ht.2⟩,h4,h5,fun i x hx=>let ⟨v,hv,hc,h1c⟩:=h6 i x hx;⟨v,hv,hc.mono hs hO hw,h1c⟩,h7⟩
 |box tb cs=>
  obtain ⟨h1,cv,fr,ht,h5,h6,h7⟩:=h;refine ⟨h1,cv,fr,⟨by rw [hp h1];exact ht.1,ht.2⟩,h5,fun i x hx=> ?_,h7⟩;obtain ⟨v,hv,hc,h1c⟩:=h6 i x hx;exact ⟨v,hv,hc.only hs hO hw hβ (AV.onlyL_get (by simpa [AObj.only] using hn) hx),h1c⟩
 |map es=>
  obtain ⟨h1,ms,clock,h2,h3,h4,h5⟩:=h;refine ⟨h1,ms,clock,by rw [hp h1];exact h2,h3,fun i x e hx he=> ?_,h5⟩;obtain ⟨q1,q2,q3⟩:=h4 i x e hx he;exact ⟨q1.mono hs hO hw,q2.mono hs hO hw,q3⟩
 |siter sx pos=>exact ⟨h.1,by rw [hp h.1];exact h.2⟩
def hpick:List Nat→List (Nat×AObj)→List (Nat×AObj)
 |[],_=>[]
 |b::r,H=>match hget H b with
  |some o=>(b,o)::hpick r H
  |none=>hpick r H
theorem hget_hpick: ∀ (ns:List Nat) (H:List (Nat×AObj)) (i:Nat),hget (hpick ns H) i=if mem i ns=true then hget H i else none
 |[],H,i=>by simp [hpick,mem,hget]
 |b::r,H,i=>by
  have ih:=hget_hpick r H i
  rw [mem_cons,hpick]
  by_cases e:b=i
  ·subst e
   cases ho:hget H b with
   |some o=>simp [qd]
   |none=>simp only [ih,ho];simp
  ·cases ho:hget H b with
   |some o=>simp [qd,e,ih]
   |none=>simp [e,ih]
def hrest (ns:List Nat):List (Nat×AObj)→List (Nat×AObj)
 |[]=>[]
 |(b,o)::r=>match mem b ns with
  |true=>hrest ns r
  |false=>(b,o)::hrest ns r
theorem zar (ns:List Nat): ∀ (H:List (Nat×AObj)) (i:Nat),hget (hrest ns H) i=if mem i ns=true then none else hget H i
 |[],i=>by simp [hrest,hget]
 |(b,o)::r,i=>by
  have ih:=zar ns r i
  rw [hrest,qd]
  by_cases e:b=i
  ·subst e
   cases hm:mem b ns with
   |true=>simp only [ih,hm];simp
   |false=>simp [qd]
  ·cases hm:mem b ns with
   |true=>simp [ih,e]
   |false=>simp [qd,ih,e]
def honly (ns:List Nat):List (Nat×AObj)→Bool
 |[]=>true
 |(_,o)::r=>o.only ns&&honly ns r
theorem honly_get {ns:List Nat}: ∀ {H:List (Nat×AObj)} (h:honly ns H=true) {b:Nat} {o:AObj},hget H b=some o→o.only ns=true
 |[],_,b,o,ho=>by cases ho
 |(j,x)::r,h,b,o,ho=>by
  simp only [honly,Bool.and_eq_true] at h
  rw [qd] at ho
  by_cases e:j=b
  ·rw [if_pos e] at ho;cases ho;exact h.1
  ·rw [if_neg e] at ho;exact honly_get h.2 ho
def hapart:List (Nat×AObj)→List (Nat×AObj)→Bool
 |[],_=>true
 |(b,_)::r,H=>(match hget H b with|some _=>false|none=>true)&&hapart r H
theorem hapart_get: ∀ {H H':List (Nat×AObj)} (h:hapart H H'=true) {b:Nat} {o:AObj},hget H b=some o→hget H' b=none
 |[],_,_,b,o,ho=>by cases ho
 |(j,x)::r,H',h,b,o,ho=>by
  simp only [hapart,Bool.and_eq_true] at h
  rw [qd] at ho
  by_cases e:j=b
  ·subst e
   have:=h.1
   split at this
   ·cases this
   ·assumption
  ·rw [if_neg e] at ho;exact hapart_get h.2 ho
theorem hget_append: ∀ (H H':List (Nat×AObj)) (b:Nat),hget (H++H') b=match hget H b with|some o=>some o|none=>hget H' b
 |[],H',b=>rfl
 |(j,x)::r,H',b=>by
  rw [List.cons_append,qd,qd,hget_append r H' b]
  split<;>rfl
def cut (ns:List Nat)(β:Emb):Emb:=fun b=>if mem b ns=true then β b else none
def rst (ns:List Nat)(β:Emb):Emb:=fun b=>if mem b ns=true then none else β b
theorem qV {ns:List Nat}{β:Emb}{b:Nat}{p:Place}:cut ns β b=some p↔mem b ns=true∧β b=some p:=by
 unfold cut;by_cases h:mem b ns=true<;>simp [h]
theorem ZC {ns:List Nat}{β:Emb}{b:Nat}{p:Place}:rst ns β b=some p↔mem b ns=false∧β b=some p:=by
 unfold rst;by_cases h:mem b ns=true<;>simp [h]
def Fout (F:Nat→Prop)(ns:List Nat)(β:Emb):Nat→Prop:=fun k=>F k∨own (rst ns β) k
theorem off_cut {F:Nat→Prop}{ns:List Nat}{β:Emb}{k:Nat}:off (Fout F ns β) (cut ns β) k↔off F β k:=by
 constructor
 ·rintro ((h|⟨b,p,hp,hn,hk⟩)|⟨b,p,hp,hn,hk⟩)
  ·exact .inl h
  ·exact .inr ⟨b,p,(ZC.1 hp).2,hn,hk⟩
  ·exact .inr ⟨b,p,(qV.1 hp).2,hn,hk⟩
 ·rintro (h|⟨b,p,hp,hn,hk⟩)
  ·exact .inl (.inl h)
  ·cases hm:mem b ns with
   |true=>exact .inr ⟨b,p,qV.2 ⟨hm,hp⟩,hn,hk⟩
   |false=>exact .inl (.inr ⟨b,p,ZC.2 ⟨hm,hp⟩,hn,hk⟩)
theorem HRel.cut {F:Nat→Prop}{β:Emb}{H:List (Nat×AObj)}{w:World}(h:HRel F β H w){ns:List Nat}(hok:honly ns (hpick ns H)=true):HRel (Fout F ns β) (cut ns β) (hpick ns H) w where
 obj:=fun b o ho=>by
  have hon:=honly_get hok ho
  rw [hget_hpick] at ho
  split at ho
  ·rename_i hm
   obtain ⟨p,hp,hr⟩:=h.obj b o ho;exact ⟨p,qV.2 ⟨hm,hp⟩,hr.only (Nat.le_refl _) (fun k hk=> .inl (off_cut.1 hk)) (fun _ _ _=>rfl) (fun b p hm hp=>qV.2 ⟨hm,hp⟩) (fun _=>rfl) hon⟩
  ·cases ho
 dom:=fun b p hp=>by
  obtain ⟨hm,hp⟩:=qV.1 hp;obtain ⟨o,ho⟩:=h.dom b p hp;exact ⟨o,by rw [hget_hpick,if_pos hm];exact ho⟩
 inj:=fun b b' p p' hp hp'=>h.inj b b' p p' (qV.1 hp).2 (qV.1 hp').2
 fresh:=fun k hk=>h.lt (hk.imp id (QB fun b p hp=>(ZC.1 hp).2))
 glob:=h.glob.mono (Nat.le_refl _) (fun k hk=> .inl (off_cut.1 hk)) (fun _ _ _=>rfl)
 apart:=fun b p hp hn=>by
  obtain ⟨hm,hp⟩:=qV.1 hp
  rintro (hF|⟨b',p',hp',hn',hk⟩)
  ·exact h.apart b p hp hn hF
  ·obtain ⟨hm',hp'⟩:=ZC.1 hp'
   have:=h.inj b b' p p' hp hp' hn hn' hk.symm
   subst this
   rw [hm] at hm';cases hm'
def OSpec (P:Program)(k:FuncId)(args:List AV)(H:List (Nat×AObj))(r:AV)(H':List (Nat×AObj)):Prop:=ASpec P k args H (fun r' H'' M=>r'=r∧H''=H'∧M=[])
def join (β1 β2:Emb):Emb:=fun b=>match β1 b with|some p=>some p|none=>β2 b
theorem SatB_called {c:Ctx}{s:St}{β:Emb}{a:Act}{w w':World}(hs:SatB c s β a w){ns:List Nat}{β1:Emb}{H1:List (Nat×AObj)}
 (hH:HRel (Fout c.F ns β) β1 H1 w') (hk:Keeps (cut ns β) w β1 w') (hstay: ∀ b p,cut ns β b=some p→β1 b=some p) (hap:hapart H1 (hrest ns s.H)=true):
 SatB c ⟨s.T,H1++hrest ns s.H,s.M⟩ (join β1 (rst ns β)) a w'∧ ∀ x v,VRel (Fout c.F ns β) β1 w' x v→VRel c.F (join β1 (rst ns β)) w' x v:=by
 have hclash: ∀ b p q,β1 b=some p→rst ns β b=some q→False:=fun b p q h1 h2=>by
  obtain ⟨o,ho⟩:=hH.dom b p h1;obtain ⟨hm,h2⟩:=ZC.1 h2;obtain ⟨o',ho'⟩:=hs.heap.dom b q h2
  have:=hapart_get hap ho
  rw [zar,hm] at this
  simp at this
  rw [this] at ho';cases ho'
 have hj1: ∀ b p,β1 b=some p→join β1 (rst ns β) b=some p:=fun b p h=>by simp only [join,h]
 have hj2: ∀ b p,rst ns β b=some p→join β1 (rst ns β) b=some p:=fun b p h=>by
  cases h1:β1 b with
  |some q=>exact (hclash b q p h1 h).elim
  |none=>simp only [join,h1];exact h
 have hinv: ∀ b p,join β1 (rst ns β) b=some p→β1 b=some p∨rst ns β b=some p:=fun b p h=>by
  simp only [join] at h
  cases h1:β1 b with
  |some q=>rw [h1] at h;cases h;exact .inl rfl
  |none=>rw [h1] at h;exact .inr h
 have hβ: ∀ b p,β b=some p→join β1 (rst ns β) b=some p:=fun b p h=>by
  cases hm:mem b ns with
  |true=>exact hj1 b p (hstay b p (qV.2 ⟨hm,h⟩))
  |false=>exact hj2 b p (ZC.2 ⟨hm,h⟩)
 have hown: ∀ k,own (join β1 (rst ns β)) k→own β k∨w.heap.size≤k:=by
  rintro k ⟨b,p,hp,hn,hkk⟩
  rcases hinv b p hp with h|h
  ·exact (hk.grows k ⟨b,p,h,hn,hkk⟩).imp (QB fun b p hp=>(qV.1 hp).2) id
  ·exact .inl ⟨b,p,(ZC.1 h).2,hn,hkk⟩
 have hO: ∀ k,off c.F (join β1 (rst ns β)) k→off c.F β k∨w.heap.size≤k:=fun k h=>h.elim (fun h=> .inl (.inl h)) (fun h=>(hown k h).imp .inr id)
 have hO1: ∀ k,off c.F (join β1 (rst ns β)) k→off (Fout c.F ns β) β1 k:=by
  rintro k (h|⟨b,p,hp,hn,hkk⟩)
  ·exact .inl (.inl h)
  ·rcases hinv b p hp with h|h
   ·exact .inr ⟨b,p,h,hn,hkk⟩
   ·exact .inl (.inr ⟨b,p,h,hn,hkk⟩)
 have hw: ∀ k,k<w.heap.size→ ¬ off c.F β k→w'.heap[k]? =w.heap[k]? :=fun k hk' hno=>hk.block k hk' (fun h=>hno (.inr (QB (fun b p hp=>(qV.1 hp).2) h)))
 have hup: ∀ x v,VRel (Fout c.F ns β) β1 w' x v→VRel c.F (join β1 (rst ns β)) w' x v:=fun x v h=>by
  have:x.mapN id=x→VRel c.F (join β1 (rst ns β)) w' (x.mapN id) v→VRel c.F (join β1 (rst ns β)) w' x v:=fun e h=>e ▸ h
  induction h with
  |c h=>exact .c (h.mono (Nat.le_refl _) (fun k hk=> .inl (hO1 k hk)) (fun _ _ _=>rfl))
  |agg hl _ ih=>exact .agg hl (fun i x v hx hv=>ih i x v hx hv (fun e h=>e ▸ h))
  |tup hl _ ih=>exact .tup hl (fun i x v hx hv=>ih i x v hx hv (fun e h=>e ▸ h))
  |fn hl _ hl2 _ ih ih2=>exact .fn hl (fun i x v hx hv=>ih i x v hx hv (fun e h=>e ▸ h)) hl2 (fun i x v hx hv=>ih2 i x v hx hv (fun e h=>e ▸ h))
  |ifc _ ih=>exact .ifc (ih (fun e h=>e ▸ h))
  |ptr hp hn=>exact .ptr (hj1 _ _ hp) hn
  |pnil=>exact .pnil
  |sl hp hn hc hl=>exact .sl (hj1 _ _ hp) hn hc hl
  |slz hp ha=>exact .slz (hj1 _ _ hp) ha
  |mp hp hn=>exact .mp (hj1 _ _ hp) hn
  |it hp hn=>exact .it (hj1 _ _ hp) hn
  |anyp=>exact .anyp
  |junk h=>exact .junk h
  |gone=>exact .gone
 have hupO: ∀ p o,ORel (Fout c.F ns β) β1 w' p o→ORel c.F (join β1 (rst ns β)) w' p o:=fun p o h=>by
  cases o with
  |row te k fz cs=>
   obtain ⟨h1,h2,h3⟩:=h;refine ⟨h1,h2,fun hn=> ?_⟩;obtain ⟨cv,fr,ht,h4,h5,h6,h7⟩:=h3 hn;exact ⟨cv,fr,ht,h4,h5,fun i x hx=>let ⟨v,hv,hc,h1c⟩:=h6 i x hx;⟨v,hv,hc.mono (Nat.le_refl _) (fun k hk=> .inl (hO1 k hk)) (fun _ _ _=>rfl),h1c⟩,h7⟩
  |box tb cs=>
   obtain ⟨h1,cv,fr,ht,h5,h6,h7⟩:=h;exact ⟨h1,cv,fr,ht,h5,fun i x hx=>let ⟨v,hv,hc,h1c⟩:=h6 i x hx;⟨v,hv,hup _ _ hc,h1c⟩,h7⟩
  |map es=>
   obtain ⟨h1,ms,clock,h2,h3,h4,h5⟩:=h;refine ⟨h1,ms,clock,h2,h3,fun i x e hx he=> ?_,h5⟩;obtain ⟨q1,q2,q3⟩:=h4 i x e hx he;exact ⟨q1.mono (Nat.le_refl _) (fun k hk=> .inl (hO1 k hk)) (fun _ _ _=>rfl),q2.mono (Nat.le_refl _) (fun k hk=> .inl (hO1 k hk)) (fun _ _ _=>rfl),q3⟩
  |siter sx pos=>exact h
 refine ⟨⟨hs.defers,hs.size,⟨fun b o hg=> ?_,fun b p hp=> ?_,fun b b' p p' hp hp' hn hn' hbb=> ?_,fun k hk'=>Nat.lt_of_lt_of_le (hs.heap.fresh k hk') hk.size,fun b p hp hn hF=> ?_,hs.heap.glob.mono hk.size hO hw⟩,fun i x hx=> ?_,?_,fun b p hp hm=>hβ b p (hs.stay b p hp hm)⟩,hup⟩
 ·rw [hget_append] at hg
  cases h1:hget H1 b with
  |some o1=>
   rw [h1] at hg;cases hg
   obtain ⟨p,hp,hr⟩:=hH.obj b o h1;exact ⟨p,hj1 b p hp,hupO p o hr⟩
  |none=>
   rw [h1] at hg
   simp only at hg
   rw [zar] at hg
   split at hg
   ·cases hg
   ·rename_i hm
    obtain ⟨p,hp,hr⟩:=hs.heap.obj b o hg;refine ⟨p,hβ b p hp,hr.carry hβ hk.size hO hw fun hn=>hk.block _ (hs.heap.blk_lt hp hn) ?_⟩
    rintro ⟨b',p',hp',hn',hkk⟩
    obtain ⟨hm',hp'⟩:=qV.1 hp'
    have:=hs.heap.inj b b' p p' hp hp' hn hn' hkk.symm
    subst this
    exact hm hm'
 ·rw [hget_append]
  rcases hinv b p hp with h|h
  ·obtain ⟨o,ho⟩:=hH.dom b p h;exact ⟨o,by rw [ho]⟩
  ·have hc:hget H1 b=none:=by
    cases h1:hget H1 b with
    |none=>rfl
    |some o1=>obtain ⟨p1,hp1,_⟩:=hH.obj b o1 h1;exact (hclash b p1 p hp1 h).elim
   obtain ⟨hm,h⟩:=ZC.1 h;obtain ⟨o,ho⟩:=hs.heap.dom b p h;exact ⟨o,by rw [hc];simp only;rw [zar,hm];simpa using ho⟩
 ·rcases hinv b p hp with h|h<;>rcases hinv b' p' hp' with h'|h'
  ·exact hH.inj b b' p p' h h' hn hn' hbb
  ·exact (hH.apart b p h hn (.inr ⟨b',p',h',hn',hbb.symm⟩)).elim
  ·exact (hH.apart b' p' h' hn' (.inr ⟨b,p,h,hn,hbb⟩)).elim
  ·exact hs.heap.inj b b' p p' (ZC.1 h).2 (ZC.1 h').2 hn hn' hbb
 ·rcases hinv b p hp with h|h
  ·exact hH.apart b p h hn (.inl hF)
  ·exact hs.heap.apart b p (ZC.1 h).2 hn hF
 ·obtain ⟨v,hv,hr⟩:=hs.slot i x hx;exact ⟨v,hv,hr.mono hβ hk.size hO hw⟩
 ·exact hs.keeps.trans ⟨hk.os,hk.tape,hk.output,hk.size,fun k hk' hno=>hk.block k hk' (fun h=>hno (QB (fun b p hp=>(qV.1 hp).2) h)),hown⟩
section
variable {c:Ctx} {Q:Exit→Act→World→Prop} {T:List (Nat×AV)} {H H1 H2 H':List (Nat×AObj)} {M:List Nat} {ops:Array Oper} {rest:List Oper} {d:Tmp} {ty:TypeId} {pos:String} {af:Array Edge} {cl:Call} {k:FuncId} {first cap es args:List AV} {r:AV}
theorem RL_callP (hspec:PSpec c.P k args r)(hk:calleeOf T cl.callee=some (k,first,cap))(ha:opvL T cl.args.toList=some es)(hargs:first++es++cap=args)(hcl:AV.closedL args=true)(hdo:dstOk c.N (some d)=true)
 (hnext:RunL c ops Q rest ⟨(d,r)::T,H,M⟩):RunL c ops Q (⟨some d,.call cl,ty,pos,af,none⟩::rest) ⟨T,H,M⟩:=by
 subst hargs
 exact RunL_call (s:=⟨T,H,M⟩) rfl hk ha hspec hcl rfl hdo hnext
end
theorem ASpec_of_run' {P:Program}{U:List (Nat×TI)}(hU: ∀ t i,tget U t=some i→P.underlying t=some i.desc∧ ∃ info,P.info? t=some info∧info.size=i.size∧info.bytes=i.bytes∧info.zero=some i.zero)
 {k:FuncId} {fn:Func} {code:Code} {args:List AV} {H:List (Nat×AObj)} {Q:Post} (hf:P.funcs[k]? =some fn) (hb:fn.body=some code) (hname:(fn.name== "runtime.NumGoroutine")=false) (hn:Nat.ble args.length fn.ntmps=true)
 (h: ∀ F β w,(∀ b p,β b=some p→ ∃ o,hget H b=some o)→Run ⟨P,U,hU,F,β,w,fn.ntmps,[]⟩ (bodyPost P fn (Rpost Q F β w)) code ⟨enumT 0 args,H,[]⟩):ASpec P k args H Q:=by
 refine ⟨Proofs.enters_of hf hname hb,fun F β w vs hH ⟨hl,ha⟩=>calls_of_wp hf hb (h F β w hH.dom _ w ⟨β,rfl,?_,hH,fun i x hx=> ?_,Keeps.refl _ _,fun b p hp _=>hp⟩)⟩
 ·have h1:=Nat.le_of_ble_eq_true hn
  show (vs.toArray++Array.replicate (fn.ntmps-vs.toArray.size) undef).size=fn.ntmps
  rw [Array.size_append,Array.size_replicate,List.size_toArray]
  omega
 ·rw [get_enumT] at hx
  simp only [Nat.zero_le,if_true,Nat.sub_zero] at hx
  have hi:i<args.length:=(List.getElem?_eq_some_iff.1 hx).1
  have hv:vs[i]? =some (vs[i]'(by omega)):=by simp
  refine ⟨vs[i]'(by omega),?_,ha i x _ hx hv⟩
  rw [Array.getElem?_append_left (by simp;omega)]
  simp
section
variable {P:Program} {U:List (Nat×TI)} {hU: ∀ t i,tget U t=some i→P.underlying t=some i.desc∧ ∃ info,P.info? t=some info∧info.size=i.size∧info.bytes=i.bytes∧info.zero=some i.zero}
 {F:Nat→Prop} {β:Emb} {w0:World} {N:Nat} {fn:Func} {T:List (Nat×AV)} {H H0 H':List (Nat×AObj)} {M:List Nat} {r r':AV}
end
end Go.Abs
set_option linter.unusedVariables false
namespace Go.Abs
open Go
variable [GTab]
section
variable {P:Program} {ops:Array Oper} {Q:Exit→Act→World→Prop}
def Qn (Q:Exit→Act→World→Prop):Exit→Act→World→Prop
 | .panic _,_,_=>False
 |e,a,w=>Q e a w
theorem letsOut_of (h:LetsOut (Qn Q)):LetsOut Q:=h
theorem Oper.wp_n {o:Oper}{a:Act}{w:World}{K:Act→World→Prop}(hh:o.wp P a w K (Qn Q)):o.wp P a w K Q:=by
 unfold Oper.wp at*
 generalize (execOp a.eval o).run P w=r at*
 cases r with
 |ok n w'=>
  cases n<;>simp only [Oper.upon] at hh ⊢ <;>
   first
    |exact hh
    |exact Calls.mono hh (fun e w'' he=>by cases e<;>first|exact he|exact he.elim|exact letsOut_of he)
 |halt x w'=>cases x<;>simp only [Oper.upon] at hh ⊢ <;>first|exact hh|exact hh.elim
def wpAnyK (P:Program)(ops:Array Oper)(hot:List Nat)(Q:Exit→Act→World→Prop):Nat→Array Bool→Act→World→Prop
 |0,listed,a,w=>Region.ready .any ops listed=[]∧Q .normal a w
 |fuel+1,listed,a,w=>
  (Region.ready .any ops listed=[]→Q .normal a w)∧
  ∀ i∈Region.ready .any ops listed,wpOp P ops (Qn Q) i (fun a' w'=>(mem i hot=true∨RowKit.Below w.heap.size w w')∧wpAnyK P ops hot Q fuel (listed.setIfInBounds i true) a' w') a w
theorem wpAny_of_K {hot:List Nat}: ∀ (fuel:Nat) (listed:Array Bool) (a:Act) (w:World),wpAnyK P ops hot Q fuel listed a w→wpAny P .any ops Q fuel listed a w
 |0,_,_,_,h=>h
 |fuel+1,_,_,_,h=>⟨h.1,fun i hi=>by
  have h1:=wpOp_mono (fun a' w' h'=>wpAny_of_K fuel _ a' w' h'.2) (h.2 i hi)
  unfold wpOp at*
  split
  ·rename_i ho;simpa [ho] using h1
  ·rename_i o ho
   simp only [ho] at h1
   split
   ·rename_i hw;simp only [hw,if_true] at h1;exact h1.imp Oper.wp_n (fun h=>⟨h.1,letsOut_of h.2⟩)
   ·rename_i hw;simp only [hw] at h1;exact h1⟩
def waits (ops:Array Oper):Nat→Nat→Nat→Bool
 |0,_,_=>false
 |n+1,j,i=>match ops[j]? with
  |some oj=>oj.after.any fun e=>Region.binds .any e&&(Nat.beq e.on i||waits ops n e.on i)
  |none=>false
def hotOk (ops:Array Oper)(hot:List Nat)(listed:Array Bool)(i:Nat):Bool:=
 hot.all fun j=>listed.getD j true||waits ops ops.size j i
def Closed (ops:Array Oper)(listed:Array Bool):Prop:= ∀ j oj,ops[j]? =some oj→listed.getD j true=true→ ∀ e∈oj.after,Region.binds .any e=true→listed.getD e.on false=true
theorem mem_iff {b:Nat}: ∀ {l:List Nat},mem b l=true↔b∈l
 |[]=>by simp [mem]
 |x::r=>by rw [mem_cons,Bool.or_eq_true,mem_iff (l:=r),List.mem_cons];simp [eq_comm]
theorem getD_of {listed:Array Bool}{i:Nat}(h:listed.getD i false=true):listed.getD i true=true:=by
 rcases Nat.lt_or_ge i listed.size with h'|h'
 ·simpa [h'] using h
 ·simp [Array.getElem?_eq_none h'] at h
theorem waits_spec {listed:Array Bool}(hc:Closed ops listed){i:Nat}: ∀ (n j:Nat),waits ops n j i=true→(∀ oj,ops[j]? =some oj→ ∀ e∈oj.after,Region.binds .any e=true→listed.getD e.on false=true)→listed.getD i false=true
 |0,_,h,_=>by cases h
 |n+1,j,h,hall=>by
  simp only [waits] at h
  split at h
  ·rename_i oj ho
   obtain ⟨e,he,hb⟩:=Array.any_eq_true'.1 h
   simp only [Bool.and_eq_true,Bool.or_eq_true] at hb
   obtain ⟨hb1,hb2⟩:=hb
   have hl:=hall oj ho e he hb1
   rcases hb2 with h2|h2
   ·rw [←Nat.eq_of_beq_eq_true h2];exact hl
   ·exact waits_spec hc n e.on h2 fun ok hk e' he' hb'=>hc e.on ok hk (getD_of hl) e' he' hb'
  ·cases h
theorem hotOk_mono {hot:List Nat}{listed:Array Bool}{i j:Nat}(h:hotOk ops hot listed i=true):hotOk ops hot (listed.setIfInBounds j true) i=true:=by
 simp only [hotOk,List.all_eq_true] at*
 intro k hk
 have h1:=h k hk
 by_cases e:j=k
 ·subst e
  by_cases hlt:j<listed.size
  ·simp [hlt]
  ·simp [hlt]
 ·rw [getD_set_ne true e];exact h1
theorem Closed.set {listed:Array Bool}(hc:Closed ops listed){j:Nat}(hj:j∈Region.ready .any ops listed):Closed ops (listed.setIfInBounds j true):=by
 intro k ok hk hl e he hb
 obtain ⟨_,oj,hoj,hall⟩:=mem_ready.1 hj
 by_cases h:j=k
 ·subst h
  rw [hoj] at hk;cases hk
  exact getD_set_true (hall e he hb)
 ·rw [getD_set_ne true h] at hl
  exact getD_set_true (hc k ok hk hl e he hb)
theorem Closed.start (ops:Array Oper):Closed ops (Array.replicate ops.size false):=by
 intro j oj hj hl
 have:j<ops.size:=(Array.getElem?_eq_some_iff.1 hj).1
 simp [this] at hl
theorem YieldsIf.less {S S':World→Prop}(h: ∀ w,S' w→S w){o:Oper}{v:Value}{a:Act}(hy:YieldsIf P ops S o v a):YieldsIf P ops S' o v a:=
 hy.imp (fun ⟨hw,hv⟩=>⟨hw,fun w hS=>hv w (h w hS)⟩) id
theorem wpAnyK_first {hot:List Nat}{i:Nat}{oi:Oper}{v:Value}(hi:ops[i]? =some oi)(hsel: ∀ (j:Nat) (o:Oper) cs b,ops[j]? =some o→o.op≠ .select cs b):
 ∀ (fuel:Nat) (listed:Array Bool) (a:Act) (w:World),
  (∀ j oj,ops[j]? =some oj→j≠i→listed.getD j true=false→(∀ e∈oj.after,Region.binds .any e=true→e.on≠i)→oi.apart ops oj=true)→
  Closed ops listed→
  i∈Region.ready .any ops listed→((hotOk ops hot listed i=true∧YieldsIf P ops (RowKit.Below w.heap.size w) oi v a)∨YieldsIf P ops (fun _=>True) oi v a)→
  wpAnyK P ops hot Q fuel (listed.setIfInBounds i true) (a.put oi.dst v) w→wpAnyK P ops hot Q (fuel+1) listed a w:=by
 have hQ: ∀ c a w,Qn Q (.panic c) (a.put oi.dst v) w→Qn Q (.panic c) a w:=fun _ _ _ h=>h
 intro fuel
 induction fuel with
 |zero=>
  intro listed a w _ _ hr hy H
  have hy0:YieldsIf P ops (RowKit.Below w.heap.size w) oi v a:=hy.elim (·.2) (YieldsIf.less (fun _ _=>trivial))
  refine ⟨fun h=>(by rw [h] at hr;cases hr),fun j hj=> ?_⟩
  by_cases hji:j=i
  ·subst hji;exact hy0.wpOp hi (RowKit.Below.refl _ _) ⟨.inr (RowKit.Below.refl _ _),H⟩
  ·have:=ready_mono hj hji
   rw [H.1] at this
   cases this
 |succ fuel ih=>
  intro listed a w hfree hcl hr hy H
  have hy0:YieldsIf P ops (RowKit.Below w.heap.size w) oi v a:=hy.elim (·.2) (YieldsIf.less (fun _ _=>trivial))
  refine ⟨fun h=>(by rw [h] at hr;cases hr),fun j hj=> ?_⟩
  by_cases hji:j=i
  ·subst hji;exact hy0.wpOp hi (RowKit.Below.refl _ _) ⟨.inr (RowKit.Below.refl _ _),H⟩
  ·have h1:=H.2 j (ready_mono hj hji)
   obtain ⟨hjun,oj,hoj,hall⟩:=mem_ready.1 hj
   have hnot: ∀ e∈oj.after,Region.binds .any e=true→e.on≠i:=fun e he hb heq=>by
    have h1:=hall e he hb
    have h0:=(mem_ready.1 hr).1
    rw [heq] at h1
    rcases Nat.lt_or_ge i listed.size with h'|h'
    ·simp [h'] at h0 h1;rw [h0] at h1;cases h1
    ·simp [Array.getElem?_eq_none h'] at h1
   have hfree': ∀ k ok,ops[k]? =some ok→k≠i→(listed.setIfInBounds j true).getD k true=false→
    (∀ e∈ok.after,Region.binds .any e=true→e.on≠i)→oi.apart ops ok=true:=fun k ok hk hki hun hno=>by
    refine hfree k ok hk hki ?_ hno
    by_cases hjk:j=k
    ·subst hjk;exact hjun
    ·rw [getD_set_ne true hjk] at hun;exact hun
   rcases hy with ⟨hhot,hy⟩|hy
   ·have hcold:mem j hot=false:=by
     cases hm:mem j hot with
     |false=>rfl
     |true=>
      simp only [hotOk,List.all_eq_true] at hhot
      have h1:=hhot j (mem_iff.1 hm)
      rw [hjun,Bool.false_or] at h1
      have h2:=waits_spec hcl _ j h1 fun ok hk e he hb=>by rw [hoj] at hk;cases hk;exact hall e he hb
      have h0:=(mem_ready.1 hr).1
      rw [getD_of h2] at h0;cases h0
    have h2:=wpOp_putIf (S:=RowKit.Below w.heap.size w) hoj (hfree j oj hoj hji hjun hnot) (fun cs b=>hsel i oi cs b hi) (fun cs b=>hsel j oj cs b hoj) hQ hy h1
    refine wpOp_mono (fun a' w' h3=> ?_) h2;obtain ⟨hy',hbel,hK⟩:=h3
    have hbel:RowKit.Below w.heap.size w w':=hbel.resolve_left (by rw [hcold];simp)
    refine ⟨.inr hbel,ih (listed.setIfInBounds j true) a' w' hfree' (hcl.set hj) (ready_mono hr (Ne.symm hji)) (.inl ⟨hotOk_mono hhot,YieldsIf.less (fun w'' hb=> ?_) hy'⟩) ?_⟩
    ·exact ⟨hb.os.trans hbel.os,hb.tape.trans hbel.tape,hb.output.trans hbel.output,Nat.le_trans hbel.size hb.size,fun k hk=>(hb.block k (Nat.lt_of_lt_of_le hk hbel.size)).trans (hbel.block k hk)⟩
    ·rw [Array.setIfInBounds_comm _ _ hji]
     exact hK
   ·have h2:=wpOp_putIf (S:=fun _=>True) hoj (hfree j oj hoj hji hjun hnot) (fun cs b=>hsel i oi cs b hi) (fun cs b=>hsel j oj cs b hoj) hQ hy h1
    refine wpOp_mono (fun a' w' h3=> ?_) h2;obtain ⟨hy',hbel,hK⟩:=h3;refine ⟨hbel,ih (listed.setIfInBounds j true) a' w' hfree' (hcl.set hj) (ready_mono hr (Ne.symm hji)) (.inr hy') ?_⟩
    rw [Array.setIfInBounds_comm _ _ hji]
    exact hK
inductive Plan where
 |done
 |q (i:Nat) (r:Plan)
 |e (i:Nat) (r:Plan)
 |two (i j:Nat) (x y:Plan)
 |s (i:Nat) (r:Plan)
 |alt (i:Nat) (x r:Plan)
def Plan.step (e:Bool)(i:Nat)(r:Plan):Plan:=match e with|true=> .e i r|false=> .q i r
def Plan.deep:Nat→Plan→Bool
 |0,.done=>true
 |n+1,.q _ r=>Plan.deep n r
 |n+1,.e _ r=>Plan.deep n r
 |n+1,.two _ _ x y=>Plan.deep n x&&Plan.deep n y
 |n+1,.s _ r=>Plan.deep n r
 |n+1,.alt _ x r=>Plan.deep n x&&Plan.deep (n+1) r
 |_,_=>false
def Plan.heads:Plan→List Nat
 | .alt i _ r=>i::Plan.heads r
 | .e i _=>[i]
 |_=>[]
def mixB (ops:Array Oper)(hot:List Nat):Bool→Plan→Array Bool→Bool
 |true,.done,listed=>match Region.ready .any ops listed with|[]=>true|_=>false
 |true,.q i r,listed=>(Region.ready .any ops listed).contains i&&Region.free .any ops listed i&&hotOk ops hot listed i&&mixB ops hot true r (listed.setIfInBounds i true)
 |true,.s i r,listed=>(Region.ready .any ops listed).contains i&&Region.free .any ops listed i&&mixB ops hot true r (listed.setIfInBounds i true)
 |c,.e i r,listed=>(match c with|true=>(match Region.ready .any ops listed with|[j]=>Nat.beq j i|_=>false)|false=>true)&&mixB ops hot true r (listed.setIfInBounds i true)
 |true,.two i j x y,listed=>(match Region.ready .any ops listed with|[a,b]=>Nat.beq a i&&Nat.beq b j|_=>false)&&(mixB ops hot true x (listed.setIfInBounds i true)&&mixB ops hot true y (listed.setIfInBounds j true))
 |c,.alt i x r,listed=>(match c with|true=> !(Region.ready .any ops listed).isEmpty&&(Region.ready .any ops listed).all fun k=>mem k (i::Plan.heads r)|false=>true)&&(mixB ops hot true x (listed.setIfInBounds i true)&&mixB ops hot false r listed)
 |_,_,_=>false
def wpMix (P:Program)(ops:Array Oper)(hot:List Nat)(Q:Exit→Act→World→Prop):Plan→Act→World→Prop
 | .done,a,w=>Q .normal a w
 | .q i r,a,w=>match ops[i]? with
  |none=>False
  |some o=> ∃ v,YieldsIf P ops (RowKit.Below w.heap.size w) o v a∧wpMix P ops hot Q r (a.put o.dst v) w
 | .s i r,a,w=>match ops[i]? with
  |none=>False
  |some o=> ∃ v,YieldsIf P ops (fun _=>True) o v a∧wpMix P ops hot Q r (a.put o.dst v) w
 | .alt i x r,a,w=>wpOp P ops (Qn Q) i (fun a' w'=>(mem i hot=true∨RowKit.Below w.heap.size w w')∧wpMix P ops hot Q x a' w') a w∧wpMix P ops hot Q r a w
 | .e i r,a,w=>wpOp P ops (Qn Q) i (fun a' w'=>(mem i hot=true∨RowKit.Below w.heap.size w w')∧wpMix P ops hot Q r a' w') a w
 | .two i j x y,a,w=>wpOp P ops (Qn Q) i (fun a' w'=>(mem i hot=true∨RowKit.Below w.heap.size w w')∧wpMix P ops hot Q x a' w') a w∧
  wpOp P ops (Qn Q) j (fun a' w'=>(mem j hot=true∨RowKit.Below w.heap.size w w')∧wpMix P ops hot Q y a' w') a w
theorem alt_get {hot:List Nat}{n:Nat}: ∀ (p:Plan) (listed:Array Bool) (a:Act) (w:World),Plan.deep (n+1) p=true→mixB ops hot false p listed=true→wpMix P ops hot Q p a w→ ∀ k,mem k p.heads=true→
 ∃ x,Plan.deep n x=true∧mixB ops hot true x (listed.setIfInBounds k true)=true∧wpOp P ops (Qn Q) k (fun a' w'=>(mem k hot=true∨RowKit.Below w.heap.size w w')∧wpMix P ops hot Q x a' w') a w
 | .e i r,listed,a,w,hd,hB,h,k,hk=>by
  simp only [Plan.heads,mem_cons,mem,Bool.or_false,decide_eq_true_eq] at hk
  subst hk
  simp only [mixB,Bool.true_and] at hB
  exact ⟨r,hd,hB,h⟩
 | .alt i x r,listed,a,w,hd,hB,h,k,hk=>by
  simp only [Plan.deep,Bool.and_eq_true] at hd
  simp only [mixB,Bool.true_and,Bool.and_eq_true] at hB
  simp only [Plan.heads,mem_cons,Bool.or_eq_true,decide_eq_true_eq] at hk
  rcases hk with rfl|hk
  ·exact ⟨x,hd.1,hB.1,h.1⟩
  ·exact alt_get r listed a w hd.2 hB.2 h.2 k hk
 | .done,_,_,_,_,hB,_,_,_=>by simp [mixB] at hB
 | .q _ _,_,_,_,_,hB,_,_,_=>by simp [mixB] at hB
 | .s _ _,_,_,_,_,hB,_,_,_=>by simp [mixB] at hB
 | .two _ _ _ _,_,_,_,_,hB,_,_,_=>by simp [mixB] at hB
theorem QT {hot:List Nat}(hs:Region.noSelect ops=true): ∀ (n:Nat) (p:Plan) (listed:Array Bool) (a:Act) (w:World),Plan.deep n p=true→Closed ops listed→mixB ops hot true p listed=true→wpMix P ops hot Q p a w→wpAnyK P ops hot Q n listed a w
 |0,.done,listed,a,w,_,hcl,hB,h=>by
  simp only [mixB] at hB
  split at hB
  ·rename_i hr;exact ⟨hr,h⟩
  ·cases hB
 |n+1,.q i r,listed,a,w,hd,hcl,hB,h=>by
  simp only [mixB,Bool.and_eq_true] at hB
  obtain ⟨⟨⟨hr,hf⟩,hh⟩,hB'⟩:=hB
  simp only [wpMix] at h
  split at h
  ·exact h.elim
  ·rename_i o ho
   obtain ⟨v,hy,hn⟩:=h;exact wpAnyK_first ho (Region.noSelect_spec hs) _ listed a w (Region.free_spec ho hf) hcl (by simpa using hr) (.inl ⟨hh,hy⟩) (QT hs n r _ _ _ hd (hcl.set (by simpa using hr)) hB' hn)
 |n+1,.s i r,listed,a,w,hd,hcl,hB,h=>by
  simp only [mixB,Bool.and_eq_true] at hB
  obtain ⟨⟨hr,hf⟩,hB'⟩:=hB
  simp only [wpMix] at h
  split at h
  ·exact h.elim
  ·rename_i o ho
   obtain ⟨v,hy,hn⟩:=h;exact wpAnyK_first ho (Region.noSelect_spec hs) _ listed a w (Region.free_spec ho hf) hcl (by simpa using hr) (.inr hy) (QT hs n r _ _ _ hd (hcl.set (by simpa using hr)) hB' hn)
 |n+1,.alt i x r,listed,a,w,hd,hcl,hB,h=>by
  simp only [mixB,Bool.and_eq_true] at hB
  obtain ⟨⟨hr0,hr⟩,hB1,hB2⟩:=hB
  have hB3:mixB ops hot false (.alt i x r) listed=true:=by simp only [mixB,Bool.true_and,Bool.and_eq_true];exact ⟨hB1,hB2⟩
  have hall: ∀ k∈Region.ready .any ops listed,mem k (Plan.alt i x r).heads=true:=fun k hk=>List.all_eq_true.1 hr k hk
  refine ⟨fun h0=> ?_,fun k hk=> ?_⟩
  ·rw [h0] at hr0;cases hr0
  ·obtain ⟨y,hy1,hy2,hy3⟩:=alt_get (.alt i x r) listed a w hd hB3 h k (hall k hk);exact wpOp_mono (fun a' w' h'=>⟨h'.1,QT hs n y _ _ _ hy1 (hcl.set hk) hy2 h'.2⟩) hy3
 |n+1,.e i r,listed,a,w,hd,hcl,hB,h=>by
  simp only [mixB,Bool.and_eq_true] at hB
  obtain ⟨hr,hB'⟩:=hB
  split at hr
  ·rename_i j hrd
   obtain rfl:=Nat.eq_of_beq_eq_true hr;refine ⟨fun h0=>(by rw [hrd] at h0;cases h0),fun k hk=> ?_⟩
   rw [hrd] at hk
   obtain rfl:=List.mem_singleton.1 hk
   simp only [wpMix] at h
   exact wpOp_mono (fun a' w' h'=>⟨h'.1,QT hs n r _ _ _ hd (hcl.set (by rw [hrd];simp)) hB' h'.2⟩) h
  ·cases hr
 |n+1,.two i j x y,listed,a,w,hd,hcl,hB,h=>by
  simp only [mixB,Bool.and_eq_true] at hB
  simp only [Plan.deep,Bool.and_eq_true] at hd
  obtain ⟨hr,hB1,hB2⟩:=hB
  split at hr
  ·rename_i a' b' hrd
   simp only [Bool.and_eq_true] at hr
   obtain rfl:=Nat.eq_of_beq_eq_true hr.1;obtain rfl:=Nat.eq_of_beq_eq_true hr.2;refine ⟨fun h0=>(by rw [hrd] at h0;cases h0),fun k hk=> ?_⟩
   rw [hrd] at hk
   simp only [wpMix] at h
   rcases List.mem_cons.1 hk with rfl|hk
   ·exact wpOp_mono (fun a' w' h'=>⟨h'.1,QT hs n x _ _ _ hd.1 (hcl.set (by rw [hrd];simp)) hB1 h'.2⟩) h.1
   ·obtain rfl:=List.mem_singleton.1 hk;exact wpOp_mono (fun a' w' h'=>⟨h'.1,QT hs n y _ _ _ hd.2 (hcl.set (by rw [hrd];simp)) hB2 h'.2⟩) h.2
  ·cases hr
def mixOk (ops:Array Oper)(hot:List Nat)(l:Plan):Bool:=
 Region.noSelect ops&&Plan.deep ops.size l&&mixB ops hot true l (Array.replicate ops.size false)
theorem wp_region_mix {id:Nat}{hot:List Nat}{l:Plan}{a:Act}{w:World}(hm:P.follows .mixedOrders=true)(hB:mixOk ops hot l=true)
 (h:wpMix P ops hot Q l a {w with drawn:=w.drawn+1}):(Code.region id ops true).wp P Q a w:=by
 simp only [mixOk,Bool.and_eq_true] at hB
 obtain ⟨⟨hs,hl⟩,hB⟩:=hB;exact wp_region_any hm (wpAny_of_K (hot:=hot) _ _ _ _ (QT hs _ l _ a _ hl (Closed.start ops) hB h))
end
def RunM (c:Ctx)(ops:Array Oper)(hot:List Nat)(Q:Exit→Act→World→Prop)(l:Plan)(s:St):Prop:= ∀ a w,Sat c s a w→wpMix c.P ops hot Q l a w
def RunN (c:Ctx)(ops:Array Oper)(hot:List Nat)(Q:Exit→Act→World→Prop)(i:Nat)(e:Bool)(o:Oper)(l:Plan)(s:St):Prop:=
 ∀ g,ops[i]? =some {o with guard:=g}→(∀ a w β,SatB c s β a w→Region.wanted {o with guard:=g} (yielded ops a.tmps)=Region.wanted o (yielded ops a.tmps))→RunM c ops hot Q (Plan.step e i l) s
section
variable {c:Ctx} {ops:Array Oper} {Q:Exit→Act→World→Prop} {hot:List Nat} {l:Plan} {i:Nat} {e:Bool} {s s':St} {o:Oper}
theorem Run_region_m {id:Nat}{lo:List Oper}(hot:List Nat)(l:Plan)(hm:c.P.follows .mixedOrders=true)(hB:mixOk lo.toArray hot l=true)(h:RunM c lo.toArray hot Q l s):Run c Q (.region id lo.toArray true) s:=by
 rintro a w ⟨β,hs⟩
 have hb:BelowD w {w with drawn:=w.drawn+1}:=⟨⟨rfl,rfl,rfl,Nat.le_refl _,fun _ _=>rfl⟩,Nat.le_succ _⟩
 exact wp_region_mix hm hB (h a _ ⟨β,hs.later hb⟩)
theorem RunM_nil (h:Fin c Q .normal s):RunM c ops hot Q .done s:=h
theorem RunM_getq (hi:ops[i]? =some o)(h:RunN c ops hot Q i false o l s):RunM c ops hot Q (.q i l) s:=h o.guard hi (fun _ _ _ _=>rfl)
theorem RunM_gete (hi:ops[i]? =some o)(h:RunN c ops hot Q i true o l s):RunM c ops hot Q (.e i l) s:=h o.guard hi (fun _ _ _ _=>rfl)
theorem RunM_alt {x y:Plan}(h1:RunM c ops hot Q (.e i x) s)(h2:RunM c ops hot Q y s):RunM c ops hot Q (.alt i x y) s:=fun a w h=>⟨h1 a w h,h2 a w h⟩
def RunS (c:Ctx)(ops:Array Oper)(hot:List Nat)(Q:Exit→Act→World→Prop)(i:Nat)(o:Oper)(l:Plan)(s:St):Prop:=
 ∀ g,ops[i]? =some {o with guard:=g}→(∀ a w β,SatB c s β a w→Region.wanted {o with guard:=g} (yielded ops a.tmps)=Region.wanted o (yielded ops a.tmps))→RunM c ops hot Q (.s i l) s
theorem RunM_gets (hi:ops[i]? =some o)(h:RunS c ops hot Q i o l s):RunM c ops hot Q (.s i l) s:=h o.guard hi (fun _ _ _ _=>rfl)
theorem RunS_q {x:AV}(h:QOpS c o s x)(hg:o.guard=none)(hd:dstOk c.N o.dst=true)(hr:RunM c ops hot Q l ⟨putT s.T o.dst x,s.H,s.M⟩):RunS c ops hot Q i o l s:=by
 rintro g hi hwt a w ⟨β,hs⟩
 obtain ⟨v,hv,hrun⟩:=h a w β hs
 simp only [wpMix,hi]
 exact ⟨v,.inl ⟨(hwt a w β hs).trans (Jn hg _),fun w' _=>hrun w'⟩,hr _ _ ⟨β,hs.put hd hv⟩⟩
theorem ZA {x:AV}(h:QOp c o s x)(hg:o.guard=none)(hd:dstOk c.N o.dst=true)(hr:RunM c ops hot Q l ⟨putT s.T o.dst x,s.H,s.M⟩):RunN c ops hot Q i false o l s:=by
 rintro g hi hwt a w ⟨β,hs⟩
 obtain ⟨v,hv,hrun⟩:=h a w β hs
 simp only [Plan.step,wpMix,hi]
 exact ⟨v,.inl ⟨(hwt a w β hs).trans (Jn hg _),hrun⟩,hr _ _ ⟨β,hs.put hd hv⟩⟩
theorem RunN_on {j d:Nat}{b:Bool}(hg:o.guard=some (j,b))(hj:((ops[j]?).bind (·.dst))=some d)(hx:get s.T d=some (.pl (.bool b)))(h:RunN c ops hot Q i e {o with guard:=none} l s):RunN c ops hot Q i e o l s:=
 fun g hi hwt=>h g hi fun a w β hs=>by
  rw [hwt a w β hs]
  simp [Region.wanted,hg,yielded_of hs hj hx]
theorem RunN_split {j d:Nat}{b f:Bool}(hg:o.guard=some (j,b))(hj:((ops[j]?).bind (·.dst))=some d)(hxb:get s.T d=some (.pl (.bool f)))
 (ht:f=true→RunN c ops hot Q i e o l ⟨(d,.pl (.bool true))::s.T,s.H,s.M⟩) (hf:f=false→RunN c ops hot Q i e o l ⟨(d,.pl (.bool false))::s.T,s.H,s.M⟩):RunN c ops hot Q i e o l s:=by
 have hup: ∀ b,f=b→ ∀ a w β,SatB c s β a w→SatB c ⟨(d,.pl (.bool b))::s.T,s.H,s.M⟩ β a w:=by
  rintro b rfl a w β hs
  exact ⟨hs.defers,hs.size,hs.heap,fun i x hx=>(by
   rw [Qf] at hx
   by_cases e:d=i
   ·rw [if_pos e] at hx;cases hx;subst e;exact hs.slot d _ hxb
   ·rw [if_neg e] at hx;exact hs.slot i x hx),hs.keeps,hs.stay⟩
 rintro g hi hwt a w ⟨β,hs⟩
 cases f with
 |true=>
  refine ht rfl g hi (fun a w β hs'=>hwt a w β ⟨hs'.defers,hs'.size,hs'.heap,fun i x hx=> ?_,hs'.keeps,hs'.stay⟩) a w ⟨β,hup _ rfl a w β hs⟩;refine hs'.slot i x ?_
  rw [Qf]
  by_cases e:d=i
  ·subst e;rw [if_pos rfl,←hxb,hx]
  ·rw [if_neg e];exact hx
 |false=>
  refine hf rfl g hi (fun a w β hs'=>hwt a w β ⟨hs'.defers,hs'.size,hs'.heap,fun i x hx=> ?_,hs'.keeps,hs'.stay⟩) a w ⟨β,hup _ rfl a w β hs⟩;refine hs'.slot i x ?_
  rw [Qf]
  by_cases e:d=i
  ·subst e;rw [if_pos rfl,←hxb,hx]
  ·rw [if_neg e];exact hx
theorem RunN_eb (h:EOpB c o s s')(hg:o.guard=none)(hr:RunM c ops hot Q l s'):RunN c ops hot Q i true o l s:=by
 rintro g hi hwt a w ⟨β,hs⟩
 simp only [Plan.step,wpMix,wpOp,hi,(hwt a w β hs).trans (Jn hg _),if_true]
 refine .inl ?_;obtain ⟨w',β',hb,v,hrun,hs'⟩:=h a w β hs;unfold Oper.wp;rw [show (execOp a.eval {o with guard:=g}).run c.P w=_ from hrun,Oper.upon_value];exact ⟨.inr hb,hr _ _ ⟨β',hs'⟩⟩
theorem RunN_e (hh:mem i hot=true)(h:EOp c o s s')(hg:o.guard=none)(hr:RunM c ops hot Q l s'):RunN c ops hot Q i true o l s:=by
 rintro g hi hwt a w ⟨β,hs⟩
 simp only [Plan.step,wpMix,wpOp,hi,(hwt a w β hs).trans (Jn hg _),if_true]
 refine .inl ?_;obtain ⟨w',β',⟨v,hrun,hs'⟩|⟨hrun,hs'⟩⟩:=h a w β hs
 ·unfold Oper.wp;rw [show (execOp a.eval {o with guard:=g}).run c.P w=_ from hrun,Oper.upon_value];exact ⟨.inl hh,hr _ _ ⟨β',hs'⟩⟩
 ·unfold Oper.wp;rw [show (execOp a.eval {o with guard:=g}).run c.P w=_ from hrun,Oper.upon_skip];exact ⟨.inl hh,hr _ _ ⟨β',hs'⟩⟩
end
section
variable {c:Ctx} {Q:Exit→Act→World→Prop} {T:List (Nat×AV)} {H H1 H2 H':List (Nat×AObj)} {M:List Nat} {ops:Array Oper} {hot:List Nat} {l:Plan} {i:Nat} {d:Tmp} {ty:TypeId} {pos:String} {af:Array Edge} {cl:Call} {k:FuncId} {first cap es args:List AV} {r:AV}
theorem hrest_nil: ∀ H:List (Nat×AObj),hrest [] H=H
 |[]=>rfl
 |(b,o)::r=>by simp [hrest,mem,hrest_nil r]
theorem RN_callO (hspec:OSpec c.P k args [] r H')(hk:calleeOf T cl.callee=some (k,first,cap))(ha:opvL T cl.args.toList=some es)(hargs:first++es++cap=args)
 (hon:AV.onlyL [] args=true) (hap:hapart H' H=true) (hdo:dstOk c.N (some d)=true)
 (hnext:RunM c ops hot Q l ⟨(d,r)::T,H'++H,M⟩):RunN c ops hot Q i true ⟨some d,.call cl,ty,pos,af,none⟩ l ⟨T,H,M⟩:=by
 rintro g hi hwt a w ⟨β,hs⟩
 have hH2:=hrest_nil H
 subst hargs
 simp only [Plan.step,wpMix,wpOp,hi,(hwt a w β hs).trans (Jn rfl _),if_true]
 refine .inl ?_;obtain ⟨vs,hA,hrun⟩:=zat (o:=⟨some d,.call cl,ty,pos,af,g⟩) hs hk ha hspec.1 rfl;unfold Oper.wp
 rw [hrun w,Oper.upon_enter]
 have hH:HRel (Fout c.F [] β) (cut [] β) (hpick [] H) w:=hs.heap.cut rfl
 have hA':Args (Fout c.F [] β) (cut [] β) w (first++es++cap) vs:=⟨hA.1,fun i x v hx hv=>
  (hA.2 i x v hx hv).only (Nat.le_refl _) (fun k hk=> .inl (off_cut.1 hk)) (fun _ _ _=>rfl) (fun b p hm hp=>qV.2 ⟨hm,hp⟩) (AV.onlyL_get hon hx)⟩
 refine (hspec.2 (Fout c.F [] β) (cut [] β) w vs hH hA').mono ?_
 rintro e w' ⟨r',v,H'',M',β',rfl,⟨rfl,rfl,rfl⟩,hH',hv,hkp,hst⟩
 obtain ⟨hs',hup⟩:=SatB_called hs hH' hkp (fun b p hp=>hst b p hp rfl) (by rw [hH2];exact hap)
 rw [hH2] at hs'
 refine ⟨.inr (hkp.below ?_),hnext _ _ ⟨_,hs'.put hdo (hup _ _ hv)⟩⟩
 rintro k ⟨b,p,hp,_⟩
 have:=(qV.1 hp).1
 simp [mem] at this
theorem PSpec.o (h:PSpec c.P k args r):OSpec c.P k args [] r []:=
 ⟨h.1,fun F β w vs hH ha=>(h.2 F β w vs hH ha).mono fun e w' ⟨r',v,H'',M',β',he,⟨h1,h2⟩,hH',hv,hk,hst⟩=>
  ⟨r',v,H'',[],β',he,⟨h1,h2,rfl⟩,hH',hv,hk,fun b p hp _=>by obtain ⟨o,ho⟩:=hH.dom b p hp;cases ho⟩⟩
theorem RN_callP (hspec:PSpec c.P k args r)(hk:calleeOf T cl.callee=some (k,first,cap))(ha:opvL T cl.args.toList=some es)(hargs:first++es++cap=args)
 (hon:AV.onlyL [] args=true) (hdo:dstOk c.N (some d)=true)
 (hnext:RunM c ops hot Q l ⟨(d,r)::T,H,M⟩):RunN c ops hot Q i true ⟨some d,.call cl,ty,pos,af,none⟩ l ⟨T,H,M⟩:=
 RN_callO hspec.o hk ha hargs hon rfl hdo hnext
variable {op:Op} {j q:Nat} {b:Bool} {e:Bool}
theorem RN_on (hj:((ops[j]?).bind (·.dst))=some q)(hx:get T q=some (.pl (.bool b)))(h:RunN c ops hot Q i e ⟨some d,op,ty,pos,af,none⟩ l ⟨T,H,M⟩):RunN c ops hot Q i e ⟨some d,op,ty,pos,af,some (j,b)⟩ l ⟨T,H,M⟩:=
 RunN_on (s:=⟨T,H,M⟩) rfl hj hx h
theorem RN_split {f:Bool}(hj:((ops[j]?).bind (·.dst))=some q)(hx:get T q=some (.pl (.bool f)))(ht:f=true→RunN c ops hot Q i e ⟨some d,op,ty,pos,af,some (j,b)⟩ l ⟨(q,.pl (.bool true))::T,H,M⟩)
 (hf:f=false→RunN c ops hot Q i e ⟨some d,op,ty,pos,af,some (j,b)⟩ l ⟨(q,.pl (.bool false))::T,H,M⟩):RunN c ops hot Q i e ⟨some d,op,ty,pos,af,some (j,b)⟩ l ⟨T,H,M⟩:=
 RunN_split (s:=⟨T,H,M⟩) rfl hj hx ht hf
end
end Go.Abs
set_option linter.unusedVariables false
namespace Go.Abs
open Go
variable [GTab]
def QOpX (c:Ctx)(o:Oper)(s:St)(X:AV→Prop):Prop:=
 ∀ a w β,SatB c s β a w→ ∃ x,X x∧ ∃ v,VRel c.F β w x v∧ ∀ w',RowKit.Below w.heap.size w w'→(execOp a.eval o).run c.P w'= .ok (.value v) w'
section
variable {c:Ctx} {Q:Exit→Act→World→Prop} {s:St} {ops:Array Oper} {rest:List Oper} {o:Oper} {X:AV→Prop} {hot:List Nat} {l:Plan} {i:Nat}
theorem RunL_qx (h:QOpX c o s X)(hg:o.guard=none)(hd:dstOk c.N o.dst=true)(hr: ∀ x,X x→RunL c ops Q rest ⟨putT s.T o.dst x,s.H,s.M⟩):RunL c ops Q (o::rest) s:=by
 rintro a w ⟨β,hs⟩
 obtain ⟨x,hx,v,hv,hrun⟩:=h a w β hs;refine wpList_plain hg fun K hK=> ?_;unfold Oper.wp
 rw [hrun w (RowKit.Below.refl _ _),Oper.upon_value]
 exact hK _ _ (hr x hx _ _ ⟨β,hs.put hd hv⟩)
end
def lenN:AV→Option Nat
 | .vs n _=>some n
 | .sl _ _ n=>some n
 |_=>none
section
variable {c:Ctx} {s:St} {d:Option Tmp} {ty:TypeId} {pos:String} {af:Array Edge} {g:Option (Nat×Bool)}
theorem run_equal_nil {P:Program}{t e:TypeId}(ht:P.underlying t=some (.slice e))(w:World)(A:Option Addr)(n cap:Nat):(binOp .eql t (.slice A n cap) (.slice none 0 0)).run P w= .ok (.bool A.isNone) w:=by
 have key:(Op.equal t (.slice A n cap) (.slice none 0 0)).run P w= .ok A.isNone w:=by
  show (Op.equalIn (9999+1) t (.slice A n cap) (.slice none 0 0)).run P w=_
  generalize 9999=d
  cases A<;>simp [Op.equalIn,run_underlying ht]
 show (do pure (Value.bool (←Op.equal t (.slice A n cap) (.slice none 0 0))):Sem Value).run P w=_
 simp [key]
theorem qx_eqnil {t t':TypeId}{x:Operand}{ax:AV}{n:Nat}{ti:TI}{e:TypeId}(ht:tget c.U t=some ti)(htd:ti.desc= .slice e)(hx:opv s.T x=some ax)(hn:lenN ax=some n):
 QOpX c ⟨d,.binOp .eql t x (.const (.slice none 0 0)) t',ty,pos,af,g⟩ s (fun z=> ∃ b:Bool,z= .pl (.bool b)∧(b=true→n=0)):=by
 intro a w β hs
 have hv:=hs.op hx
 have key: ∃ A cap,a.eval x= .slice A n cap∧(A=none→n=0):=by
  cases ax with
  |vs m cs=>
   cases hn
   obtain ⟨A,cap,he,_,h⟩:=hv.vs_inv;refine ⟨A,cap,he,fun h0=> ?_⟩
   rcases h with h|⟨b,o,h,_⟩
   ·exact h
   ·rw [h0] at h;cases h
  |sl b o m=>
   cases hn
   obtain ⟨p,hp,h⟩:=hv.sl_inv
   rcases h with ⟨hn,cap,he,_⟩|⟨h0,A,he⟩
   ·exact ⟨_,cap,he,fun h=>by cases h⟩
   ·exact ⟨_,_,by rw [he,h0],fun _=>h0⟩
  |_=>simp [lenN] at hn
 obtain ⟨A,cap,he,h0⟩:=key;refine ⟨.pl (.bool A.isNone),⟨A.isNone,rfl,fun h=>h0 (by simpa using h)⟩,_,.c (.pl _),fun w' _=> ?_⟩
 have h2:a.eval (.const (.slice none 0 0))= .slice none 0 0:=rfl
 have h3:eqGuard .eql t x (.const (.slice none 0 0)) (.slice A n cap) (.slice none 0 0)=pure ():=rfl
 simp [execOp,he,h2,h3,run_equal_nil ((c.hU t ti ht).1.trans (congrArg some htd))]
def encB (l:List UInt8):List AV:=l.map fun b=> .pl (.int .u8 (b.toNat:Int))
theorem encB_length (l:List UInt8):(encB l).length=l.length:=by simp [encB]
theorem q_conv_bytes {src dst:TypeId}{x:Operand}{ax:AV}{l:List UInt8}{n:Nat}{ds:List AV}{t1 t2 ei:TI}{e:TypeId}(h1:tget c.U src=some t1)(hd1:t1.desc= .slice e)(he:tget c.U e=some ei)(hek:ei.desc= .int .u8)
 (h2:tget c.U dst=some t2) (hd2:t2.desc= .string) (hx:opv s.T x=some ax) (hsrc:srcAt s.H 1 ax=some (n,ds)) (hds:ds=encB l) (hn:l.length=n):
 QOp c ⟨d,.convert src dst x,ty,pos,af,g⟩ s (.pl (.string ⟨l.toArray⟩)):=by
 intro a w β hs
 subst hds hn
 obtain ⟨A,cap,news,hv,hA,hlen,hcell,hone,hall⟩:=hs.src (hs.op hx) hsrc (by rw [encB_length,Nat.mul_one])
 have hnews:news=(l.map fun b=>(b.toNat:Int)).map (Value.int .u8):=by
  apply List.ext_getElem?
  intro i
  by_cases hi:i<l.length
  ·obtain ⟨u,hu,hr⟩:=hall i (.pl (.int .u8 (l[i].toNat:Int))) (by simp [encB,hi])
   cases hr
   rw [hu];simp [hi]
  ·rw [List.getElem?_eq_none (by rw [hlen];omega),List.getElem?_eq_none (by simp;omega)]
 refine ⟨_,.c (.pl _),fun w' hb=> ?_⟩
 have hun1:=(c.hU src t1 h1).1.trans (congrArg some hd1)
 have hun2:=(c.hU dst t2 h2).1.trans (congrArg some hd2)
 have hune:=(c.hU e ei he).1.trans (congrArg some hek)
 cases A with
 |none=>
  have:l=[]:=by
   cases l with
   |nil=>rfl
   |cons b r=>obtain ⟨ad,h⟩:=hA (by simp);cases h
  subst this
  have hr:=run_convert_bytes_string (P:=c.P) w' src dst e none 0 cap hun1 hune hun2
  simp only [List.length_nil] at hv
  simp only [execOp,hv]
  simp [hr,Conv.bytesToString]
  rfl
 |some ad=>
  have hl:(loadCells ad l.length).run c.P w'= .ok ((l.map fun b=>(b.toNat:Int)).map (Value.int .u8)).toArray w':=by
   have:=run_loadCells_list (P:=c.P) w' ad news (fun j v hj=>Below.cell_at hb (hcell ad rfl j v hj))
   rw [hlen,Nat.mul_one,hnews] at this
   exact this
  have hr:=run_convert_bytes_string (P:=c.P) w' src dst e (some ad) l.length cap hun1 hune hun2
  rw [run_bytesToString w' ad l.length cap _ hl,foldl_push_bytes] at hr
  have hfin:(⟨ByteArray.empty.data++(List.map (fun n=>UInt8.ofNat n.toNat) (List.map (fun b:UInt8=>(b.toNat:Int)) l)).toArray⟩:ByteArray)=⟨l.toArray⟩:=by
   congr 1
   rw [List.map_map]
   have:((fun n:Int=>UInt8.ofNat n.toNat) ∘ fun b:UInt8=>(b.toNat:Int))=id:=by
    funext b
    simp
   rw [this,List.map_id]
   simp [ByteArray.empty,ByteArray.emptyWithCapacity]
   try rfl
  rw [hfin] at hr
  simp only [execOp,hv]
  simp [hr]
theorem s_indexAddr_vsD {t:TypeId}{x y:Operand}{n:Nat}{cs ds:List AV}{k:IntKind}{i:Int}{ti ei:TI}{e:TypeId}(ht:tget c.U t=some ti)(htd:ti.desc= .slice e)(he:tget c.U e=some ei)
 (hx:opv s.T x=some (.vs n cs)) (hy:opv s.T y=some (.pl (.int k i))) (hi:0≤i∧i<n) (hds:cs.drop (i.toNat*ei.size)=ds):QOpS c ⟨d,.indexAddr t x y,ty,pos,af,g⟩ s (.vptr ds):=by
 subst hds
 exact s_indexAddr_vsI ht htd he hx hy hi
theorem q_indexAddr_vsD {t:TypeId}{x y:Operand}{n:Nat}{cs ds:List AV}{k:IntKind}{i:Int}{ti ei:TI}{e:TypeId}(ht:tget c.U t=some ti)(htd:ti.desc= .slice e)(he:tget c.U e=some ei)
 (hx:opv s.T x=some (.vs n cs)) (hy:opv s.T y=some (.pl (.int k i))) (hi:0≤i∧i<n) (hds:cs.drop (i.toNat*ei.size)=ds):QOp c ⟨d,.indexAddr t x y,ty,pos,af,g⟩ s (.vptr ds):=(s_indexAddr_vsD ht htd he hx hy hi hds).later
def seqB:Nat→List (Nat×Operand)→Bool
 |_,[]=>true
 |i,(j,_)::r=>Nat.beq j i&&seqB (i+1) r
theorem enumO_of: ∀ (l:List (Nat×Operand)) (i:Nat),seqB i l=true→l=enumO i (l.map (·.2))
 |[],i,_=>rfl
 |(j,x)::r,i,h=>by
  simp only [seqB,Bool.and_eq_true] at h
  obtain rfl:=Nat.eq_of_beq_eq_true h.1
  rw [List.map_cons,enumO,←enumO_of r _ h.2]
theorem e_buildSliceN {t:TypeId}{n:Nat}{parts:Array (Nat×Operand)}{axs cs:List AV}{ti ei:TI}{e k:Nat}(ht:tget c.U t=some ti)(htd:ti.desc= .slice e)(he:tget c.U e=some ei)(hk:ei.size=k)(hk0:Nat.blt 0 k=true)
 (hzs:ei.zero.cells.size=k) (hparts:seqB 0 parts.toList=true) (hn:parts.toList.length=n) (hn0:Nat.blt 0 n=true) (hx:opvL s.T (parts.toList.map (·.2))=some axs) (hfit:fitAll k axs=true) (hcs:cellsL axs=cs) (hlim:Nat.ble (n*k) (2^24)=true) (hb:hget s.H (nm d)=none) (hd:dstOk c.N d=true):
 EOpB c ⟨d,.buildSlice t n parts,ty,pos,af,g⟩ s ⟨putT s.T d (.sl (nm d) 0 n),(nm d,.row e k 0 cs)::s.H,s.M⟩:=by
 have h0:0<n:=Nat.le_of_ble_eq_true hn0
 exact e_buildSlice ht htd he hk (Nat.le_of_ble_eq_true hk0) hzs (enumO_of _ _ hparts) (by simpa using hn) (by rintro h;rw [←hn] at h0;rw [List.map_eq_nil_iff] at h;rw [h] at h0;simp at h0) hx hfit hcs (Nat.le_of_ble_eq_true hlim) hb hd
theorem e_buildSlice0 {t:TypeId}{parts:Array (Nat×Operand)}{ti ei:TI}{e k:Nat}(ht:tget c.U t=some ti)(htd:ti.desc= .slice e)(he:tget c.U e=some ei)(hk:ei.size=k)(hp:parts= #[])(hb:hget s.H (nm d)=none)(hd:dstOk c.N d=true):
 EOpB c ⟨d,.buildSlice t 0 parts,ty,pos,af,g⟩ s ⟨putT s.T d (.sl (nm d) 0 0),(nm d,.row e k 0 [])::s.H,s.M⟩:=by
 intro a w β hs
 subst hp
 obtain ⟨β',hs',hr⟩:=hs.newrow hb #[] e (k:=k) (n:=0) (cs:=[]) rfl (by simp) (by simp) (fr:=(0,0)) (fun o ho _ h=>by simp at ho);refine ⟨_,β',Zv _ _,_,?_,hs'.put hd hr⟩
 have hf:Instr.fill (fun i=>some (i*ei.size,ei.size)) ((Array.range 0).map fun _=>(default:Value)) []=some #[]:=by
  have:((Array.range 0).map fun _=>(default:Value))= #[]:=by simp
  rw [this];simp [Instr.fill]
 simp [execOp,Instr.buildSlice,ty_desc ht,htd,QS he,newRow,hf]
end
theorem flat_drop {α:Type}{enc:α→List AV}{k:Nat}(hk: ∀ x,(enc x).length=k): ∀ (l:List α) (i:Nat) (h:i<l.length),(l.flatMap enc).drop (i*k)=enc l[i]++(l.drop (i+1)).flatMap enc
 |x::r,0,h=>by simp
 |x::r,i+1,h=>by
  have:=flat_drop hk r i (by simpa using h)
  rw [List.flatMap_cons,Nat.add_mul,Nat.one_mul,Nat.add_comm,←hk x,List.drop_append]
  simp only [List.getElem_cons_succ,List.drop_succ_cons]
  rw [←this,hk x]
  simp [hk x]
theorem flat_length {α:Type}{enc:α→List AV}{k:Nat}(hk: ∀ x,(enc x).length=k)(l:List α):(l.flatMap enc).length=l.length*k:=by
 induction l with
 |nil=>simp
 |cons x r ih=>rw [List.flatMap_cons,List.length_append,ih,hk,List.length_cons,Nat.add_mul,Nat.one_mul,Nat.add_comm]
section
variable {c:Ctx} {Q:Exit→Act→World→Prop} {T:List (Nat×AV)} {H:List (Nat×AObj)} {M:List Nat} {ops:Array Oper} {rest:List Oper} {d:Tmp} {ty:TypeId} {pos:String} {af:Array Edge} {hot:List Nat} {lq:Plan} {i0:Nat}
 {t t':TypeId} {x:Operand} {ax:AV} {n:Nat} {ti:TI} {e:TypeId}
theorem RL_eqnil (ht:tget c.U t=some ti)(htd:ti.desc= .slice e)(hx:opv T x=some ax)(hn:lenN ax=some n)(hdo:dstOk c.N (some d)=true)
 (hnext: ∀ b:Bool,(b=true→n=0)→RunL c ops Q rest ⟨(d,.pl (.bool b))::T,H,M⟩):RunL c ops Q (⟨some d,.binOp .eql t x (.const (.slice none 0 0)) t',ty,pos,af,none⟩::rest) ⟨T,H,M⟩:=
 RunL_qx (s:=⟨T,H,M⟩) (qx_eqnil ht htd hx hn) rfl hdo (fun z ⟨b,hz,hb⟩=>by subst hz;exact hnext b hb)
end
end Go.Abs
set_option linter.unusedVariables false
namespace Go.Abs
open Go
variable [GTab]
def subM:List Nat→List Nat→Bool
 |[],_=>true
 |b::r,M=>mem b M&&subM r M
theorem subM_get {M':List Nat}: ∀ {M:List Nat} (h:subM M M'=true) {b:Nat},mem b M'=false→mem b M=false
 |[],_,b,_=>rfl
 |x::r,h,b,hb=>by
  simp only [subM,Bool.and_eq_true] at h
  rw [mem_cons,subM_get h.2 hb,Bool.or_false,decide_eq_false_iff_not]
  rintro rfl
  rw [hb] at h;cases h.1
theorem Sat.less {c:Ctx}{T T':List (Nat×AV)}{H:List (Nat×AObj)}{M M':List Nat}{a:Act}{w:World}(h:Sat c ⟨T,H,M⟩ a w)(hT:Sub T' T)(hM:subM M M'=true):Sat c ⟨T',H,M'⟩ a w:=by
 obtain ⟨β,hs⟩:=h.sub hT;exact ⟨β,hs.defers,hs.size,hs.heap,hs.slot,hs.keeps,fun b p hp hb=>hs.stay b p hp (subM_get hM hb)⟩
section
variable {c:Ctx} {Q:Exit→Act→World→Prop} {T:List (Nat×AV)} {H:List (Nat×AObj)} {M:List Nat} {x:Code}
end
theorem Sat.nilcell {te:TypeId}{tb:TypeId}{c:Ctx}{T:List (Nat×AV)}{H:List (Nat×AObj)}{M:List Nat}{a:Act}{w:World}(h:Sat c ⟨T,H,M⟩ a w){b' j:Nat}{cs:List AV}(b k:Nat)(hb':hget H b'=some (.box tb cs))(hj:cs[j]? =some (.pl (.slice none 0 0)))(hb:hget H b=none):
 Sat c ⟨T,hset ((b,.row te k 0 [])::H) b' (.box tb (cs.set j (.sl b 0 0))),M⟩ a w:=by
 obtain ⟨β,hs⟩:=h
 let p:Place:=⟨0,0,0,k,true⟩
 have hs':=hs.newobj (w':=w) hb p (.inr trivial) (fun h=>by cases h) ⟨rfl,⟨rfl,Nat.le_refl _⟩,rfl,Nat.le_refl _,fun _ _ _=>rfl⟩ (o:= .row te k 0 []) ⟨rfl,(fun _=>rfl),(fun h=>by cases h)⟩
 have hne:b≠b':=fun e=>by subst e;rw [hb] at hb';cases hb'
 obtain ⟨q,hq,hro⟩:=hs'.heap.obj b' (.box tb cs) (by rw [qd,if_neg hne];exact hb')
 have hro':=hro
 obtain ⟨hqn,cv,fr,h4,h5,h6,h7⟩:=hro;refine ⟨upd β b p,hs'.setobj (w':=w) hq hqn ⟨rfl,⟨rfl,Nat.le_refl _⟩,rfl,Nat.le_refl _,fun _ _ _=>rfl⟩ ⟨hqn,cv,fr,h4,by simpa using h5,fun i x hx=> ?_,h7⟩⟩
 by_cases e:j=i
 ·subst e
  rw [List.getElem?_set_self (List.getElem?_eq_some_iff.1 hj).1] at hx
  cases hx
  obtain ⟨v,hv,hr,h1⟩:=h6 j _ hj;obtain rfl:=hr.pl_eq;exact ⟨_,hv,.slz (p:=p) (ZD _ _ _) (fun _ h=>by cases h),h1⟩
 ·rw [List.getElem?_set_ne e] at hx
  exact h6 i x hx
theorem Run_nilcell {te:TypeId}{tb:TypeId}{c:Ctx}{Q:Exit→Act→World→Prop}{T:List (Nat×AV)}{H:List (Nat×AObj)}{M:List Nat}{code:Code}{b' j:Nat}{cs:List AV}(b k:Nat)(hb':hget H b'=some (.box tb cs))(hj:cs[j]? =some (.pl (.slice none 0 0)))(hb:hget H b=none)
 (h:Run c Q code ⟨T,hset ((b,.row te k 0 [])::H) b' (.box tb (cs.set j (.sl b 0 0))),M⟩):Run c Q code ⟨T,H,M⟩:=fun a w hs=>h a w (hs.nilcell b k hb' hj hb)
def AV.Le (x y:AV):Prop:= ∀ F β w v,VRel F β w x v→VRel F β w y v
def AV.CLe (x y:AV):Prop:= ∀ O w v,CRel O w x v→CRel O w y v
theorem AV.CLe.refl (x:AV):AV.CLe x x:=fun _ _ _ h=>h
def LeL:List AV→List AV→Prop
 |_,[]=>True
 |x::xs,y::ys=>AV.CLe x y∧LeL xs ys
 |[],_::_=>False
theorem LeL.get: ∀ {xs ys:List AV} (h:LeL xs ys) {i:Nat} {y:AV},ys[i]? =some y→ ∃ x,xs[i]? =some x∧AV.CLe x y
 |_,[],_,i,y,hy=>by simp at hy
 |x::xs,y::ys,h,0,z,hz=>by simp at hz;subst hz;exact ⟨x,rfl,h.1⟩
 |x::xs,y::ys,h,i+1,z,hz=>by simpa using LeL.get h.2 (by simpa using hz)
theorem LeL.refl: ∀ xs:List AV,LeL xs xs
 |[]=>trivial
 |x::r=>⟨.refl x,LeL.refl r⟩
theorem AV.CLe.vs {n:Nat}{cs ds:List AV}(h:LeL cs ds)(h0:n=0→ds=[]):AV.CLe (.vs n cs) (.vs n ds):=fun O w v hv=>by
 cases hv with
 |vs0=>exact .vs0
 |vs hn f hc ho hb hr=>
  exact .vs hn f (fun i y hy=>let ⟨x,hx,_⟩:=h.get hy;hc i x hx) ho hb (fun i y hy=>let ⟨x,hx,hle⟩:=h.get hy;hle _ _ _ (hr i x hx))
theorem AV.CLe.le {x y:AV}(h:AV.CLe x y)(hc:x.closed=true):AV.Le x y:=fun F β w v hv=> .c (h _ _ _ (hv.closed hc))
section
variable {c:Ctx} {Q:Exit→Act→World→Prop} {T:List (Nat×AV)} {H:List (Nat×AObj)} {M:List Nat} {code:Code} {ops:Array Oper} {rest:List Oper} {e:Exit}
theorem Sat.weak {a:Act}{w:World}(h:Sat c ⟨T,H,M⟩ a w){t:Nat}{x y:AV}(ht:get T t=some x)(hle:AV.Le x y):Sat c ⟨(t,y)::T,H,M⟩ a w:=by
 obtain ⟨β,hs⟩:=h;refine ⟨β,hs.defers,hs.size,hs.heap,fun i z hz=> ?_,hs.keeps,hs.stay⟩
 rw [Qf] at hz
 by_cases e:t=i
 ·rw [if_pos e] at hz;cases hz;subst e
  obtain ⟨v,hv,hr⟩:=hs.slot t x ht;exact ⟨v,hv,hle _ _ _ _ hr⟩
 ·rw [if_neg e] at hz;exact hs.slot i z hz
end
theorem Fin_nilrow {te:TypeId}{c:Ctx}{Q:Exit→Act→World→Prop}{T:List (Nat×AV)}{H:List (Nat×AObj)}{M:List Nat}{e:Exit}{t:Nat}(b k:Nat)(ht:get T t=some (.pl (.slice none 0 0)))(hb:hget H b=none)(h:Fin c Q e ⟨(t,.sl b 0 0)::T,(b,.row te k 0 [])::H,M⟩):Fin c Q e ⟨T,H,M⟩:=
 fun a w hs=>h a w (hs.nilrow b k ht hb)
theorem wrap_i64 {n:Int}(h: -9223372036854775808≤n∧n<9223372036854775808):IntKind.i64.wrap n=n:=by
 have e1:(2^64:Int)=18446744073709551616:=by decide
 have e2:(2^63:Int)=9223372036854775808:=by decide
 simp only [IntKind.wrap,IntKind.bits,IntKind.signed,Bool.true_and,decide_eq_true_eq,Nat.reduceSub,e1,e2]
 split<;>omega
section
variable {c:Ctx} {Q:Exit→Act→World→Prop} {T:List (Nat×AV)} {H:List (Nat×AObj)} {M:List Nat} {ops:Array Oper} {rest:List Oper} {hot:List Nat} {l:Plan} {i:Nat} {d:Tmp} {ty:TypeId} {pos:String} {af:Array Edge} {op:Op} {j q:Nat} {b f:Bool} {e:Bool} {x:Operand} {p1 p2:Code} {s:St}
end
section
variable {P:Program} {c:Ctx} {Q:Exit→Act→World→Prop} {T:List (Nat×AV)} {H H1 H2 H':List (Nat×AObj)} {M:List Nat} {ops:Array Oper} {rest:List Oper} {hot:List Nat} {l:Plan} {i:Nat} {d:Tmp} {ty:TypeId} {pos:String} {af:Array Edge} {cl:Call} {k:FuncId} {first cap es args:List AV} {r:AV}
theorem RL_pcall (hspec:PSpec P k args r)(hP:c.P=P)(hk:calleeOf T cl.callee=some (k,first,cap))(ha:opvL T cl.args.toList=some es)(hargs:first++es++cap=args)(hcl:AV.closedL args=true)(hdo:dstOk c.N (some d)=true)
 (hnext:RunL c ops Q rest ⟨(d,r)::T,H,M⟩):RunL c ops Q (⟨some d,.call cl,ty,pos,af,none⟩::rest) ⟨T,H,M⟩:=by
 subst hP;exact RL_callP hspec hk ha hargs hcl hdo hnext
theorem RN_pcall (hspec:PSpec P k args r)(hP:c.P=P)(hk:calleeOf T cl.callee=some (k,first,cap))(ha:opvL T cl.args.toList=some es)(hargs:first++es++cap=args)(hon:AV.onlyL [] args=true)(hdo:dstOk c.N (some d)=true)
 (hnext:RunM c ops hot Q l ⟨(d,r)::T,H,M⟩):RunN c ops hot Q i true ⟨some d,.call cl,ty,pos,af,none⟩ l ⟨T,H,M⟩:=by
 subst hP;exact RN_callP hspec hk ha hargs hon hdo hnext
end
end Go.Abs
set_option linter.unusedVariables false
namespace Go.Abs
open Go
variable [GTab]
mutual
def AV.flat:AV→Bool
 | .pl _=>true
 | .agg cs=>AV.flatL cs
 | .tup cs=>AV.flatL cs
 |_=>false
def AV.flatL:List AV→Bool
 |[]=>true
 |x::r=>AV.flat x&&AV.flatL r
end
theorem AV.flatL_get: ∀ {l:List AV} (h:AV.flatL l=true) {i:Nat} {x:AV},l[i]? =some x→x.flat=true
 |[],_,i,x,hx=>by simp at hx
 |y::r,h,0,x,hx=>by simp [AV.flatL] at h hx;subst hx;exact h.1
 |y::r,h,i+1,x,hx=>by simp [AV.flatL] at h hx;exact AV.flatL_get h.2 hx
theorem CRel.flat {O O':Nat→Prop}{w w':World}{x:AV}{v:Value}(h:CRel O w x v)(hf:x.flat=true):CRel O' w' x v:=by
 induction h with
 |pl v=>exact .pl v
 |agg hl _ ih=>exact .agg hl fun i x v hx hv=>ih i x v hx hv (AV.flatL_get (by simpa [AV.flat] using hf) hx)
 |tup hl _ ih=>exact .tup hl fun i x v hx hv=>ih i x v hx hv (AV.flatL_get (by simpa [AV.flat] using hf) hx)
 |_=>simp [AV.flat] at hf
theorem VRel.flat {F F':Nat→Prop}{β β':Emb}{w w':World}{x:AV}{v:Value}(h:VRel F β w x v)(hf:x.flat=true):VRel F' β' w' x v:=by
 induction h with
 |c h=>exact .c (h.flat hf)
 |agg hl _ ih=>exact .agg hl fun i x v hx hv=>ih i x v hx hv (AV.flatL_get (by simpa [AV.flat] using hf) hx)
 |tup hl _ ih=>exact .tup hl fun i x v hx hv=>ih i x v hx hv (AV.flatL_get (by simpa [AV.flat] using hf) hx)
 |_=>simp [AV.flat] at hf
theorem SatB.cells_of {c:Ctx}{s:St}{β:Emb}{a:Act}{w:World}(hs:SatB c s β a w){b:Nat}{p:Place}{ob:AObj}{cs:List AV}(hp:β b=some p)(hb:hget s.H b=some ob)(hcs:cellsOf ob=some cs)(hn:p.nil=false):
 ∀ (i:Nat) (x:AV),cs[i]? =some x→ ∃ u,w.cell? ⟨p.blk,p.st+i,none⟩=some u∧CRel (off c.F β) w x u∧u.oneCell'=true:=by
 obtain ⟨p',hp',hro⟩:=hs.heap.obj b _ hb
 rw [hp] at hp';cases hp'
 intro i x hx
 cases ob with
 |row te k' fz ds=>
  cases hcs
  obtain ⟨_,_,h3⟩:=hro;obtain ⟨cv,fr,hcv,_,_,h6,_⟩:=h3 hn;obtain ⟨u,hu,hc,h1⟩:=h6 i x hx;exact ⟨u,by rw [Zi hcv];exact hu,hc,h1⟩
 |box tb ds=>
  simp only [cellsOf] at hcs
  split at hcs
  ·rename_i hcl
   cases hcs
   obtain ⟨_,cv,fr,hcv,_,h6,_⟩:=hro;obtain ⟨u,hu,hc,h1⟩:=h6 i x hx;exact ⟨u,by rw [Zi hcv];exact hu,hc.closed (AV.closedL_get hcl hx),h1⟩
  ·cases hcs
 |map es=>cases hcs
 |siter sx pos=>cases hcs
theorem mapNL_map (f:AV→AV): ∀ l:List AV,AV.mapNL f l=l.map (AV.mapN f)
 |[]=>rfl
 |x::r=>by rw [AV.mapNL,mapNL_map f r];rfl
section
variable {P:Program} {c:Ctx} {Q:Exit→Act→World→Prop} {T:List (Nat×AV)} {H:List (Nat×AObj)} {M:List Nat} {ops:Array Oper} {rest:List Oper} {hot:List Nat} {l:Plan} {i:Nat} {d:Tmp} {ty:TypeId} {pos:String} {af:Array Edge} {cl:Call} {k:FuncId} {first cap es args:List AV} {r:AV}
end
section
variable {c:Ctx} {Q:Exit→Act→World→Prop} {T:List (Nat×AV)} {H:List (Nat×AObj)} {M:List Nat} {ops:Array Oper} {rest:List Oper} {hot:List Nat} {l:Plan} {i:Nat} {d:Tmp} {ty:TypeId} {pos:String} {af:Array Edge} {op:Op} {j q:Nat} {b b' f:Bool} {e:Bool} {x:Operand}
end
def LeA:List AV→List AV→Prop
 |[],[]=>True
 |x::xs,y::ys=>AV.Le x y∧LeA xs ys
 |_,_=>False
theorem LeA.get: ∀ {xs ys:List AV} (h:LeA xs ys),xs.length=ys.length∧ ∀ (i:Nat) (y:AV),ys[i]? =some y→ ∃ x,xs[i]? =some x∧AV.Le x y
 |[],[],_=>⟨rfl,by simp⟩
 |x::xs,y::ys,h=>⟨by simp [(LeA.get h.2).1],fun i z hz=>by
  cases i with
  |zero=>simp at hz;subst hz;exact ⟨x,rfl,h.1⟩
  |succ i=>simpa using (LeA.get h.2).2 i z (by simpa using hz)⟩
 |[],_::_,h=>h.elim
 |_::_,[],h=>h.elim
theorem AV.Le.refl (x:AV):AV.Le x x:=fun _ _ _ _ h=>h
theorem ASpec.le {P:Program}{k:FuncId}{xs ys:List AV}{H:List (Nat×AObj)}{Q:Post}(h:ASpec P k ys H Q)(hle:LeA xs ys):ASpec P k xs H Q:=
 ⟨h.1,fun F β w vs hH ha=>h.2 F β w vs hH ⟨hle.get.1 ▸ ha.1,fun i y v hy hv=>by
  obtain ⟨x,hx,hl⟩:=hle.get.2 i y hy
  exact hl _ _ _ _ (ha.2 i x v hx hv)⟩⟩
end Go.Abs
set_option linter.unusedVariables false
namespace Go.Abs
open Go
variable [GTab]
def intFs (U:List (Nat×TI))(k:IntKind):Nat→List Field→Bool
 |_,[]=>true
 |o,f::r=>Nat.beq f.offset o&&((f.name != "_")&&((match tget U f.type with|some ti=>(match ti.desc with| .int k'=>k'==k|_=>false)|none=>false)&&intFs U k (o+1) r))
def encIs (k:IntKind)(xs:List Int):List AV:=xs.map fun n=> .pl (.int k n)
section
variable {c:Ctx}
theorem run_part_at {t:TypeId}{ti:TI}(ht:tget c.U t=some ti)(ha:aggD ti.desc=false){cs:Array Value}{o:Nat}{v:Value}(h:cs[o]? =some v)(w:World):(part t cs o).run c.P w= .ok v w:=by
 unfold part
 simp [ty_agg ht,ha,h]
theorem run_eqFields_ints {k:IntKind}(d:Nat)(w:World)(vx vy:Array Value): ∀ (fs:List Field) (o:Nat) (xs ys:List Int),intFs c.U k o fs=true→xs.length=fs.length→ys.length=fs.length→
 (∀ (j:Nat) (n:Int),xs[j]? =some n→vx[o+j]? =some (.int k n))→(∀ (j:Nat) (n:Int),ys[j]? =some n→vy[o+j]? =some (.int k n))→(Op.eqFields (d+1) vx vy fs).run c.P w= .ok (xs==ys) w
 |[],o,xs,ys,_,hx,hy,_,_=>by
  obtain rfl:=List.eq_nil_of_length_eq_zero hx;obtain rfl:=List.eq_nil_of_length_eq_zero hy
  simp [Op.eqFields]
 |f::fs,o,a::xs,b::ys,hB,hx,hy,h1,h2=>by
  simp only [intFs,Bool.and_eq_true] at hB
  obtain ⟨ho,hn,ht,hr⟩:=hB
  have ho:=Nat.eq_of_beq_eq_true ho
  have hn:f.name≠ "_" :=by simpa using hn
  split at ht
  ·rename_i ti hti
   split at ht
   ·rename_i k' hd
    have hk:k'=k:=by simpa using ht
    subst hk
    have ha:aggD ti.desc=false:=by rw [hd];rfl
    have e1:=run_part_at hti ha (cs:=vx) (o:=f.offset) (h1 0 a rfl |> fun h=>by rw [ho];exact h) w
    have e2:=run_part_at hti ha (cs:=vy) (o:=f.offset) (h2 0 b rfl |> fun h=>by rw [ho];exact h) w
    have e3:=run_equalIn_int (P:=c.P) w d f.type k' k' a b ((zx hti).trans (congrArg some hd))
    have ih:=run_eqFields_ints d w vx vy fs (o+1) xs ys hr (by simpa using hx) (by simpa using hy)
     (fun j n hj=>by have:=h1 (j+1) n (by simpa using hj);rwa [show o+1+j=o+(j+1) by omega])
     (fun j n hj=>by have:=h2 (j+1) n (by simpa using hj);rwa [show o+1+j=o+(j+1) by omega])
    simp only [Op.eqFields,hn,ne_eq,not_false_eq_true,if_true,Sem.run_bind,e1,e2,e3,Result.andThen_ok]
    by_cases hab:a=b
    ·subst hab;simp [ih]
    ·simp [hab]
   ·cases ht
  ·cases ht
 |_::_,_,[],_,_,hx,_,_,_=>by simp at hx
 |_::_,_,_::_,[],_,_,hy,_,_=>by simp at hy
end
section
variable {c:Ctx} {s:St} {d:Option Tmp} {ty:TypeId} {pos:String} {af:Array Edge} {g:Option (Nat×Bool)}
theorem VRel.ints {F:Nat→Prop}{β:Emb}{w:World}{k:IntKind}{xs:List Int}{v:Value}(h:VRel F β w (.agg (encIs k xs)) v): ∃ vs:Array Value,v= .agg vs∧ ∀ (j:Nat) (n:Int),xs[j]? =some n→vs[j]? =some (Value.int k n):=by
 obtain ⟨vs,rfl,_,hall⟩:=h.agg_inv;refine ⟨vs,rfl,fun j n hj=> ?_⟩;obtain ⟨u,hu,hr⟩:=hall j (.pl (.int k n)) (by simp [encIs,hj]);obtain rfl:=hr.pl_eq;exact hu
theorem q_eq_ints {op:BinOp}{t t':TypeId}{x y:Operand}{k:IntKind}{xs ys:List Int}{ax ay:AV}{r:Bool}{ti:TI}{fs:Array Field}(hsh:c.P.stoodInHeld t=false)(hgt:c.P.eqGuardType c.P.depth t=false)(ht:tget c.U t=some ti)(hd:ti.desc= .struct fs)(hB:intFs c.U k 0 fs.toList=true)
 (hlx:xs.length=fs.toList.length) (hly:ys.length=fs.toList.length) (hx:opv s.T x=some ax) (hax:ax= .agg (encIs k xs)) (hy:opv s.T y=some ay) (hay:ay= .agg (encIs k ys))
 (hop:(op= .eql∧r=(xs==ys))∨(op= .neq∧r= !(xs==ys))):QOp c ⟨d,.binOp op t x y t',ty,pos,af,g⟩ s (.pl (.bool r)):=by
 subst hax hay
 intro a w β hs
 obtain ⟨vx,hvx,h1⟩:=(hs.op hx).ints;obtain ⟨vy,hvy,h2⟩:=(hs.op hy).ints
 have hu:c.P.underlying t=some (.struct fs):=(zx ht).trans (congrArg some hd)
 have hfo:c.P.fieldsOf t=fs:=by simp [Program.fieldsOf,hu]
 have he: ∀ w',(Op.equalIn 10000 t (.agg vx) (.agg vy)).run c.P w'= .ok (xs==ys) w':=fun w'=>by
  rw [run_equalIn_agg w' 9999 t vx vy (by rw [hfo];exact hu) hsh,hfo]
  exact run_eqFields_ints 9998 w' vx vy fs.toList 0 xs ys hB hlx hly (fun j n hj=>by simpa using h1 j n hj) (fun j n hj=>by simpa using h2 j n hj)
 refine ⟨_,.c (.pl _),fun w' _=> ?_⟩
 have hg:=fun op=>run_eqGuard_agg (P:=c.P) w' op t x y vx vy hgt
 rcases hop with ⟨rfl,rfl⟩|⟨rfl,rfl⟩
 ·simp [execOp,hvx,hvy,hg,run_eql_struct,he]
 ·simp [execOp,hvx,hvy,hg,run_neq_struct,he]
end
end Go.Abs
