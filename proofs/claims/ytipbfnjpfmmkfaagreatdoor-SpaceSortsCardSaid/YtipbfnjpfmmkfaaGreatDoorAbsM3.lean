/-
  THE STEPS OF A PRINTED WALK. WRITTEN BY genauto.py. Generic over the program. Conditions: none.
  APPEND OF SO MANY ZERO VALUES TO A nil SLICE, as an operation over abstract states. Generic over the program. Conditions: more than none; room for them.
  slices.SortFunc AT STRUCTS: the shelf's contract as a contract over abstract states. Generic over the program. Conditions: a total order; fewer than 2^62 elements.
  strconv.FormatInt AT BASE 10: the shelf's contract as a contract over abstract states. Generic over the program. Conditions: its table is among those that stay.
  MORE STEPS over boxes that hold rows. Generic over the program. Conditions: none.
  THE PLAIN WORDS, MORE: maps as lists of pairs; characters. No program, no memory. Conditions: none.
  MAPS OF ONE'S OWN, under keys that are texts or whole numbers, as operations over abstract states. Generic over the program. Conditions: none.
  TEXTS AND CHARACTERS: a character as a text, a text's characters, characters as a text. Generic over the program. Conditions: texts of at most 2^46 bytes.
  MAPS THAT NOBODY WRITES, as values: a map of one's own is frozen; looks into a frozen one; the nil map. Generic over the program. Conditions: none.
  A LITERAL OF BYTES THAT IS CONVERTED TO ITS OWN TYPE ([]byte of a constant text): two operations as one step. Generic over the program. Conditions: none.
  WHAT strings.Builder DOES: a pointer that may be nil in a cell, a pointer turned to unsafe.Pointer and back, the head of a row of bytes as a text. Generic over the program. Conditions: none.
  ROOM: a new slice with room behind it, a buffer of whatever bytes, a copy of nothing; a whole number's complement, division by a variable. Generic over the program. Conditions: none.
  CALLS THAT ARE DEFERRED: what they do, by the objects that they are given; the end of a function that has some. Generic over the program. Conditions: none.
  A CELL OF ONE'S OWN, READ AND WRITTEN BY package sync/atomic; what package internal/race is told. Generic over the program. Conditions: none.
  AN ARRAY OF BYTES OF ONE'S OWN: made, and its places. A value in an interface, and a call of its method. Generic over the program. Conditions: none.
-/
import Derived.Test.YtipbfnjpfmmkfaaGreatDoorAbsM2
import Derived.Shelf.SlSortCmp.NoneTotal
import Derived.Lib.QuietBelow
import Derived.Shelf.Strconv.Itoa4
import Derived.MapKept
import Derived.Laws.IdiomStrings
import Derived.Lib.Builder
import Derived.Lib.UnsafeStr
import Derived.Laws.Externs
import Derived.Lib.MakeNoZero
import Derived.Defers
set_option linter.unusedVariables false
set_option linter.unusedSectionVars false
namespace Go.Abs
open Go W
variable [GTab]
section
variable {c : Ctx} {Q : Exit → Act → World → Prop} {T : List (Nat × AV)} {H : List (Nat × AObj)} {M : List Nat} {ops : Array Oper} {rest : List Oper} {d : Tmp} {ty : TypeId} {pos : String} {af : Array Edge} {hot : List Nat} {lq : Plan} {i0 : Nat}
theorem l_move {x : Operand} {ax : AV} (hnext : RunL c ops Q rest ⟨(d, ax) :: T, H, M⟩) (hx : opv T x = some ax := by exact rfl) (hdo : dstOk c.N (some d) = true := by exact rfl) : RunL c ops Q (⟨some d, .move x, ty, pos, af, none⟩ :: rest) ⟨T, H, M⟩ := RL_move hx hdo hnext
theorem n_move {x : Operand} {ax : AV} (hnext : RunM c ops hot Q lq ⟨(d, ax) :: T, H, M⟩) (hx : opv T x = some ax := by exact rfl) (hdo : dstOk c.N (some d) = true := by exact rfl) : RunN c ops hot Q i0 false ⟨some d, .move x, ty, pos, af, none⟩ lq ⟨T, H, M⟩ := RN_move hx hdo hnext
theorem l_assign {x : Operand} {ax : AV} (hnext : RunL c ops Q rest ⟨(d, ax) :: T, H, M⟩) (hx : opv T x = some ax := by exact rfl) (hdo : dstOk c.N (some d) = true := by exact rfl) : RunL c ops Q (⟨some d, .assign x, ty, pos, af, none⟩ :: rest) ⟨T, H, M⟩ := RL_assign hx hdo hnext
theorem n_assign {x : Operand} {ax : AV} (hnext : RunM c ops hot Q lq ⟨(d, ax) :: T, H, M⟩) (hx : opv T x = some ax := by exact rfl) (hdo : dstOk c.N (some d) = true := by exact rfl) : RunN c ops hot Q i0 false ⟨some d, .assign x, ty, pos, af, none⟩ lq ⟨T, H, M⟩ := RN_assign hx hdo hnext
theorem l_pick_true {x y z : Operand} {ax : AV} (hnext : RunL c ops Q rest ⟨(d, ax) :: T, H, M⟩) (hc : opv T x = some (.pl (.bool true)) := by exact rfl) (hx : opv T y = some ax := by exact rfl) (hdo : dstOk c.N (some d) = true := by exact rfl) : RunL c ops Q (⟨some d, .pick x y z, ty, pos, af, none⟩ :: rest) ⟨T, H, M⟩ := RL_pick_true hc hx hdo hnext
theorem n_pick_true {x y z : Operand} {ax : AV} (hnext : RunM c ops hot Q lq ⟨(d, ax) :: T, H, M⟩) (hc : opv T x = some (.pl (.bool true)) := by exact rfl) (hx : opv T y = some ax := by exact rfl) (hdo : dstOk c.N (some d) = true := by exact rfl) : RunN c ops hot Q i0 false ⟨some d, .pick x y z, ty, pos, af, none⟩ lq ⟨T, H, M⟩ := RN_pick_true hc hx hdo hnext
theorem l_pick_false {x y z : Operand} {ax : AV} (hnext : RunL c ops Q rest ⟨(d, ax) :: T, H, M⟩) (hc : opv T x = some (.pl (.bool false)) := by exact rfl) (hx : opv T z = some ax := by exact rfl) (hdo : dstOk c.N (some d) = true := by exact rfl) : RunL c ops Q (⟨some d, .pick x y z, ty, pos, af, none⟩ :: rest) ⟨T, H, M⟩ := RL_pick_false hc hx hdo hnext
theorem n_pick_false {x y z : Operand} {ax : AV} (hnext : RunM c ops hot Q lq ⟨(d, ax) :: T, H, M⟩) (hc : opv T x = some (.pl (.bool false)) := by exact rfl) (hx : opv T z = some ax := by exact rfl) (hdo : dstOk c.N (some d) = true := by exact rfl) : RunN c ops hot Q i0 false ⟨some d, .pick x y z, ty, pos, af, none⟩ lq ⟨T, H, M⟩ := RN_pick_false hc hx hdo hnext
theorem l_un {op : UnOp} {t : TypeId} {x : Operand} {u r : Value} (hnext : RunL c ops Q rest ⟨(d, (.pl r)) :: T, H, M⟩) (hx : opv T x = some (.pl u) := by exact rfl) (hr : ∀ w', (Op.unary op u).run c.P w' = .ok r w' := by exact fun _ => rfl) (hdo : dstOk c.N (some d) = true := by exact rfl) : RunL c ops Q (⟨some d, .unOp op t x, ty, pos, af, none⟩ :: rest) ⟨T, H, M⟩ := RL_un hx hr hdo hnext
theorem n_un {op : UnOp} {t : TypeId} {x : Operand} {u r : Value} (hnext : RunM c ops hot Q lq ⟨(d, (.pl r)) :: T, H, M⟩) (hx : opv T x = some (.pl u) := by exact rfl) (hr : ∀ w', (Op.unary op u).run c.P w' = .ok r w' := by exact fun _ => rfl) (hdo : dstOk c.N (some d) = true := by exact rfl) : RunN c ops hot Q i0 false ⟨some d, .unOp op t x, ty, pos, af, none⟩ lq ⟨T, H, M⟩ := RN_un hx hr hdo hnext
theorem l_conv_int {src dst : TypeId} {x : Operand} {k : IntKind} {n : Int} {t1 t2 : TI} {k2 : IntKind} (hnext : RunL c ops Q rest ⟨(d, (.pl (.int k2 (k2.wrap n)))) :: T, H, M⟩) (h1 : tget c.U src = some t1 := by exact rfl) (h2 : tget c.U dst = some t2 := by exact rfl) (hk : t2.desc = .int k2 := by exact rfl) (hx : opv T x = some (.pl (.int k n)) := by exact rfl) (hdo : dstOk c.N (some d) = true := by exact rfl) : RunL c ops Q (⟨some d, .convert src dst x, ty, pos, af, none⟩ :: rest) ⟨T, H, M⟩ := RL_conv_int h1 h2 hk hx hdo hnext
theorem n_conv_int {src dst : TypeId} {x : Operand} {k : IntKind} {n : Int} {t1 t2 : TI} {k2 : IntKind} (hnext : RunM c ops hot Q lq ⟨(d, (.pl (.int k2 (k2.wrap n)))) :: T, H, M⟩) (h1 : tget c.U src = some t1 := by exact rfl) (h2 : tget c.U dst = some t2 := by exact rfl) (hk : t2.desc = .int k2 := by exact rfl) (hx : opv T x = some (.pl (.int k n)) := by exact rfl) (hdo : dstOk c.N (some d) = true := by exact rfl) : RunN c ops hot Q i0 false ⟨some d, .convert src dst x, ty, pos, af, none⟩ lq ⟨T, H, M⟩ := RN_conv_int h1 h2 hk hx hdo hnext
theorem l_extract {x : Operand} {i : Nat} {xs : List AV} {ax : AV} (hnext : RunL c ops Q rest ⟨(d, ax) :: T, H, M⟩) (hx : opv T x = some (.tup xs) := by exact rfl) (hi : xs[i]? = some ax := by exact rfl) (hdo : dstOk c.N (some d) = true := by exact rfl) : RunL c ops Q (⟨some d, .extract x i, ty, pos, af, none⟩ :: rest) ⟨T, H, M⟩ := RL_extract hx hi hdo hnext
theorem l_field {t : TypeId} {x : Operand} {i : Nat} {xs : List AV} {ti fi : TI} {fs : Array Field} {f : Field} {ax : AV} (hnext : RunL c ops Q rest ⟨(d, ax) :: T, H, M⟩) (ht : tget c.U t = some ti := by exact rfl) (hd : ti.desc = .struct fs := by exact rfl) (hf : fs[i]? = some f := by exact rfl) (hft : tget c.U f.type = some fi := by exact rfl) (hfa : aggD fi.desc = false := by exact rfl) (hx : opv T x = some (.agg xs) := by exact rfl) (hi : xs[f.offset]? = some ax := by exact rfl) (hdo : dstOk c.N (some d) = true := by exact rfl) : RunL c ops Q (⟨some d, .field t x i, ty, pos, af, none⟩ :: rest) ⟨T, H, M⟩ := RL_field ht hd hf hft hfa hx hi hdo hnext
theorem l_fieldAddr {t : TypeId} {x : Operand} {i : Nat} {ax ay : AV} {ti fi : TI} {fs : Array Field} {f : Field} (hnext : RunL c ops Q rest ⟨(d, ay) :: T, H, M⟩) (ht : tget c.U t = some ti := by exact rfl) (hd : ti.desc = .struct fs := by exact rfl) (hf : fs[i]? = some f := by exact rfl) (hft : tget c.U f.type = some fi := by exact rfl) (hne : Nat.beq fi.size 0 = false := by exact rfl) (hx : opv T x = some ax := by exact rfl) (hy : addrOff ax f.offset = some ay := by exact rfl) (hdo : dstOk c.N (some d) = true := by exact rfl) : RunL c ops Q (⟨some d, .fieldAddr t x i, ty, pos, af, none⟩ :: rest) ⟨T, H, M⟩ := RL_fieldAddr ht hd hf hft hne hx hy hdo hnext
theorem n_fieldAddr {t : TypeId} {x : Operand} {i : Nat} {ax ay : AV} {ti fi : TI} {fs : Array Field} {f : Field} (hnext : RunM c ops hot Q lq ⟨(d, ay) :: T, H, M⟩) (ht : tget c.U t = some ti := by exact rfl) (hd : ti.desc = .struct fs := by exact rfl) (hf : fs[i]? = some f := by exact rfl) (hft : tget c.U f.type = some fi := by exact rfl) (hne : Nat.beq fi.size 0 = false := by exact rfl) (hx : opv T x = some ax := by exact rfl) (hy : addrOff ax f.offset = some ay := by exact rfl) (hdo : dstOk c.N (some d) = true := by exact rfl) : RunN c ops hot Q i0 false ⟨some d, .fieldAddr t x i, ty, pos, af, none⟩ lq ⟨T, H, M⟩ := RN_fieldAddr ht hd hf hft hne hx hy hdo hnext
theorem l_nilCheck {x : Operand} {ax ay : AV} (hnext : RunL c ops Q rest ⟨(d, ax) :: T, H, M⟩) (hx : opv T x = some ax := by exact rfl) (hy : addrOff ax 0 = some ay := by exact rfl) (hdo : dstOk c.N (some d) = true := by exact rfl) : RunL c ops Q (⟨some d, .nilCheck x, ty, pos, af, none⟩ :: rest) ⟨T, H, M⟩ := RL_nilCheck hx hy hdo hnext
theorem n_nilCheck {x : Operand} {ax ay : AV} (hnext : RunM c ops hot Q lq ⟨(d, ax) :: T, H, M⟩) (hx : opv T x = some ax := by exact rfl) (hy : addrOff ax 0 = some ay := by exact rfl) (hdo : dstOk c.N (some d) = true := by exact rfl) : RunN c ops hot Q i0 false ⟨some d, .nilCheck x, ty, pos, af, none⟩ lq ⟨T, H, M⟩ := RN_nilCheck hx hy hdo hnext
theorem l_load {t : TypeId} {x : Operand} {ax ay : AV} {cs : List AV} {ti : TI} (hnext : RunL c ops Q rest ⟨(d, ay) :: T, H, M⟩) (ht : tget c.U t = some ti := by exact rfl) (ha : aggD ti.desc = false := by exact rfl) (hx : opv T x = some ax := by exact rfl) (hm : memAt H ax = some cs := by exact rfl) (hc : cs.head? = some ay := by exact rfl) (hdo : dstOk c.N (some d) = true := by exact rfl) : RunL c ops Q (⟨some d, .load t x, ty, pos, af, none⟩ :: rest) ⟨T, H, M⟩ := RL_load ht ha hx hm hc hdo hnext
theorem n_load {t : TypeId} {x : Operand} {ax ay : AV} {cs : List AV} {ti : TI} (hnext : RunM c ops hot Q lq ⟨(d, ay) :: T, H, M⟩) (ht : tget c.U t = some ti := by exact rfl) (ha : aggD ti.desc = false := by exact rfl) (hx : opv T x = some ax := by exact rfl) (hm : memAt H ax = some cs := by exact rfl) (hc : cs.head? = some ay := by exact rfl) (hdo : dstOk c.N (some d) = true := by exact rfl) : RunN c ops hot Q i0 false ⟨some d, .load t x, ty, pos, af, none⟩ lq ⟨T, H, M⟩ := RN_load ht ha hx hm hc hdo hnext
theorem l_load_agg {t : TypeId} {x : Operand} {ax : AV} {cs es : List AV} {ti : TI} (hnext : RunL c ops Q rest ⟨(d, (.agg es)) :: T, H, M⟩) (ht : tget c.U t = some ti := by exact rfl) (ha : aggD ti.desc = true := by exact rfl) (hx : opv T x = some ax := by exact rfl) (hm : memAt H ax = some cs := by exact rfl) (hc : cs.take ti.size = es := by exact rfl) (hl : es.length = ti.size := by exact rfl) (hdo : dstOk c.N (some d) = true := by exact rfl) : RunL c ops Q (⟨some d, .load t x, ty, pos, af, none⟩ :: rest) ⟨T, H, M⟩ := RL_load_agg ht ha hx hm hc hl hdo hnext
theorem n_load_agg {t : TypeId} {x : Operand} {ax : AV} {cs es : List AV} {ti : TI} (hnext : RunM c ops hot Q lq ⟨(d, (.agg es)) :: T, H, M⟩) (ht : tget c.U t = some ti := by exact rfl) (ha : aggD ti.desc = true := by exact rfl) (hx : opv T x = some ax := by exact rfl) (hm : memAt H ax = some cs := by exact rfl) (hc : cs.take ti.size = es := by exact rfl) (hl : es.length = ti.size := by exact rfl) (hdo : dstOk c.N (some d) = true := by exact rfl) : RunN c ops hot Q i0 false ⟨some d, .load t x, ty, pos, af, none⟩ lq ⟨T, H, M⟩ := RN_load_agg ht ha hx hm hc hl hdo hnext
theorem l_makeFunc {f : Fn} {first cap : Array Operand} {l1 l2 : List AV} (hnext : RunL c ops Q rest ⟨(d, (.fn f l1 l2)) :: T, H, M⟩) (h1 : opvL T first.toList = some l1 := by exact rfl) (h2 : opvL T cap.toList = some l2 := by exact rfl) (hdo : dstOk c.N (some d) = true := by exact rfl) : RunL c ops Q (⟨some d, .makeFunc f first cap, ty, pos, af, none⟩ :: rest) ⟨T, H, M⟩ := RL_makeFunc h1 h2 hdo hnext
theorem l_makeInterface {t : TypeId} {x : Operand} {ax : AV} {ti : TI} (hnext : RunL c ops Q rest ⟨(d, (.ifc t ax)) :: T, H, M⟩) (ht : tget c.U t = some ti := by exact rfl) (hni : (match ti.desc with | .interface _ => true | _ => false) = false := by exact rfl) (hx : opv T x = some ax := by exact rfl) (hdo : dstOk c.N (some d) = true := by exact rfl) : RunL c ops Q (⟨some d, .makeInterface t x, ty, pos, af, none⟩ :: rest) ⟨T, H, M⟩ := RL_makeInterface ht hni hx hdo hnext
theorem l_build {t : TypeId} {parts : Array (Nat × Operand)} {ps : List (Nat × AV)} {zs ds : List AV} {ti : TI} {fs : Array Field} (hnext : RunL c ops Q rest ⟨(d, (.agg ds)) :: T, H, M⟩) (ht : tget c.U t = some ti := by exact rfl) (htd : ti.desc = .struct fs := by exact rfl) (hfs : fsOk c.U fs.toList = true := by exact rfl) (hz : cellsA (ofVal ti.zero) = zs := by exact rfl) (hzf : fit (ofVal ti.zero) = true := by exact rfl) (hps : partsA T parts.toList = some ps := by exact rfl) (hfill : fillA (placeOf c.U fs) zs ps = some ds := by exact rfl) (hdo : dstOk c.N (some d) = true := by exact rfl) : RunL c ops Q (⟨some d, .build t parts, ty, pos, af, none⟩ :: rest) ⟨T, H, M⟩ := RL_build ht htd hfs hz hzf hps hfill hdo hnext
theorem n_build {t : TypeId} {parts : Array (Nat × Operand)} {ps : List (Nat × AV)} {zs ds : List AV} {ti : TI} {fs : Array Field} (hnext : RunM c ops hot Q lq ⟨(d, (.agg ds)) :: T, H, M⟩) (ht : tget c.U t = some ti := by exact rfl) (htd : ti.desc = .struct fs := by exact rfl) (hfs : fsOk c.U fs.toList = true := by exact rfl) (hz : cellsA (ofVal ti.zero) = zs := by exact rfl) (hzf : fit (ofVal ti.zero) = true := by exact rfl) (hps : partsA T parts.toList = some ps := by exact rfl) (hfill : fillA (placeOf c.U fs) zs ps = some ds := by exact rfl) (hdo : dstOk c.N (some d) = true := by exact rfl) : RunN c ops hot Q i0 false ⟨some d, .build t parts, ty, pos, af, none⟩ lq ⟨T, H, M⟩ := RN_build ht htd hfs hz hzf hps hfill hdo hnext
theorem l_alloc {t : TypeId} {ti : TI} {cs : List AV} (hnext : RunL c ops Q rest ⟨(d, .ptr (nm (some d)) 0) :: T, (nm (some d), .box t cs) :: H, M⟩) (ht : tget c.U t = some ti := by exact rfl) (hcs : cellsA (ofVal ti.zero) = cs := by exact rfl) (hf : fit (ofVal ti.zero) = true := by exact rfl) (hb : hget H (nm (some d)) = none := by exact rfl) (hdo : dstOk c.N (some d) = true := by exact rfl) : RunL c ops Q (⟨some d, .alloc t, ty, pos, af, none⟩ :: rest) ⟨T, H, M⟩ := RL_alloc ht hcs hf hb hdo hnext
theorem l_box {t : TypeId} {x : Operand} {ax : AV} {cs : List AV} (hnext : RunL c ops Q rest ⟨(d, .ptr (nm (some d)) 0) :: T, (nm (some d), .box t cs) :: H, M⟩) (hx : opv T x = some ax := by exact rfl) (hcs : cellsA ax = cs := by exact rfl) (hf : fit ax = true := by exact rfl) (hb : hget H (nm (some d)) = none := by exact rfl) (hdo : dstOk c.N (some d) = true := by exact rfl) : RunL c ops Q (⟨some d, .box t x, ty, pos, af, none⟩ :: rest) ⟨T, H, M⟩ := RL_box hx hcs hf hb hdo hnext
theorem l_store_box {tb : TypeId} {t : TypeId} {x y : Operand} {b o : Nat} {ay : AV} {cs es : List AV} {ti : TI} (hnext : RunL c ops Q rest ⟨T, hset H b (.box tb (updL cs o es)), M⟩) (ht : tget c.U t = some ti := by exact rfl) (hx : opv T x = some (.ptr b o) := by exact rfl) (hy : opv T y = some ay := by exact rfl) (hes : cellsA ay = es := by exact rfl) (hf : fit ay = true := by exact rfl) (hl : es.length = ti.size := by exact rfl) (hb : hget H b = some (.box tb cs) := by exact rfl) (hin : Nat.ble (o + es.length) cs.length = true := by exact rfl) : RunL c ops Q (⟨none, .store t x y, ty, pos, af, none⟩ :: rest) ⟨T, H, M⟩ := RL_store_box ht hx hy hes hf hl hb hin hnext
theorem n_store_box {tb : TypeId} {t : TypeId} {x y : Operand} {b o : Nat} {ay : AV} {cs es : List AV} {ti : TI} (hnext : RunM c ops hot Q lq ⟨T, hset H b (.box tb (updL cs o es)), M⟩) (ht : tget c.U t = some ti := by exact rfl) (hx : opv T x = some (.ptr b o) := by exact rfl) (hy : opv T y = some ay := by exact rfl) (hes : cellsA ay = es := by exact rfl) (hf : fit ay = true := by exact rfl) (hl : es.length = ti.size := by exact rfl) (hb : hget H b = some (.box tb cs) := by exact rfl) (hin : Nat.ble (o + es.length) cs.length = true := by exact rfl) (hh : mem i0 hot = true := by exact rfl) : RunN c ops hot Q i0 true ⟨none, .store t x y, ty, pos, af, none⟩ lq ⟨T, H, M⟩ := RN_store_box ht hx hy hes hf hl hb hin hh hnext
theorem l_buildSlice0 {t : TypeId} {parts : Array (Nat × Operand)} {ti ei : TI} {e k : Nat} (hnext : RunL c ops Q rest ⟨(d, .sl (nm (some d)) 0 0) :: T, (nm (some d), .row e k 0 []) :: H, M⟩) (ht : tget c.U t = some ti := by exact rfl) (htd : ti.desc = .slice e := by exact rfl) (he : tget c.U e = some ei := by exact rfl) (hk : ei.size = k := by exact rfl) (hp : parts = #[] := by exact rfl) (hb : hget H (nm (some d)) = none := by exact rfl) (hdo : dstOk c.N (some d) = true := by exact rfl) : RunL c ops Q (⟨some d, .buildSlice t 0 parts, ty, pos, af, none⟩ :: rest) ⟨T, H, M⟩ := RL_buildSlice0 ht htd he hk hp hb hdo hnext
theorem n_buildSlice0 {t : TypeId} {parts : Array (Nat × Operand)} {ti ei : TI} {e k : Nat} (hnext : RunM c ops hot Q lq ⟨(d, .sl (nm (some d)) 0 0) :: T, (nm (some d), .row e k 0 []) :: H, M⟩) (ht : tget c.U t = some ti := by exact rfl) (htd : ti.desc = .slice e := by exact rfl) (he : tget c.U e = some ei := by exact rfl) (hk : ei.size = k := by exact rfl) (hp : parts = #[] := by exact rfl) (hb : hget H (nm (some d)) = none := by exact rfl) (hdo : dstOk c.N (some d) = true := by exact rfl) : RunN c ops hot Q i0 true ⟨some d, .buildSlice t 0 parts, ty, pos, af, none⟩ lq ⟨T, H, M⟩ := RN_buildSlice0 ht htd he hk hp hb hdo hnext
theorem l_len {t : TypeId} {x : Operand} {ax : AV} {n : Nat} {ti : TI} {e : TypeId} (hnext : RunL c ops Q rest ⟨(d, (.pl (.int .i64 (n : Int)))) :: T, H, M⟩) (ht : tget c.U t = some ti := by exact rfl) (htd : ti.desc = .slice e := by exact rfl) (hx : opv T x = some ax := by exact rfl) (hn : lenA ax = some n := by exact rfl) (hdo : dstOk c.N (some d) = true := by exact rfl) : RunL c ops Q (⟨some d, .call { callee := .builtin .len, args := #[x], argTypes := #[t] }, ty, pos, af, none⟩ :: rest) ⟨T, H, M⟩ := RL_len ht htd hx hn hdo hnext
theorem n_len {t : TypeId} {x : Operand} {ax : AV} {n : Nat} {ti : TI} {e : TypeId} (hnext : RunM c ops hot Q lq ⟨(d, (.pl (.int .i64 (n : Int)))) :: T, H, M⟩) (ht : tget c.U t = some ti := by exact rfl) (htd : ti.desc = .slice e := by exact rfl) (hx : opv T x = some ax := by exact rfl) (hn : lenA ax = some n := by exact rfl) (hdo : dstOk c.N (some d) = true := by exact rfl) : RunN c ops hot Q i0 false ⟨some d, .call { callee := .builtin .len, args := #[x], argTypes := #[t] }, ty, pos, af, none⟩ lq ⟨T, H, M⟩ := RN_len ht htd hx hn hdo hnext
theorem l_bool {op : BinOp} {t t' : TypeId} {x y : Operand} {m n r : Bool} {ti : TI} (hnext : RunL c ops Q rest ⟨(d, (.pl (.bool r))) :: T, H, M⟩) (ht : tget c.U t = some ti := by exact rfl) (hd : ti.desc = .bool := by exact rfl) (hx : opv T x = some (.pl (.bool m)) := by exact rfl) (hy : opv T y = some (.pl (.bool n)) := by exact rfl) (hop : (op = .eql ∧ r = (m == n)) ∨ (op = .neq ∧ r = !(m == n)) := by first | exact Or.inl ⟨rfl, rfl⟩ | exact Or.inr ⟨rfl, rfl⟩) (hdo : dstOk c.N (some d) = true := by exact rfl) : RunL c ops Q (⟨some d, .binOp op t x y t', ty, pos, af, none⟩ :: rest) ⟨T, H, M⟩ := RL_bool ht hd hx hy hop hdo hnext
theorem l_cmp {op : BinOp} {t t' : TypeId} {x y : Operand} {k : IntKind} {m n : Int} {b : Bool} (hnext : RunL c ops Q rest ⟨(d, (.pl (.bool b))) :: T, H, M⟩) (hx : opv T x = some (.pl (.int k m)) := by exact rfl) (hy : opv T y = some (.pl (.int k n)) := by exact rfl) (hb : binOp op t (.int k m) (.int k n) = pure (.bool b) := by exact rfl) (hdo : dstOk c.N (some d) = true := by exact rfl) : RunL c ops Q (⟨some d, .binOp op t x y t', ty, pos, af, none⟩ :: rest) ⟨T, H, M⟩ := RL_cmp hx hy hb hdo hnext
theorem n_cmp {op : BinOp} {t t' : TypeId} {x y : Operand} {k : IntKind} {m n : Int} {b : Bool} (hnext : RunM c ops hot Q lq ⟨(d, (.pl (.bool b))) :: T, H, M⟩) (hx : opv T x = some (.pl (.int k m)) := by exact rfl) (hy : opv T y = some (.pl (.int k n)) := by exact rfl) (hb : binOp op t (.int k m) (.int k n) = pure (.bool b) := by exact rfl) (hdo : dstOk c.N (some d) = true := by exact rfl) : RunN c ops hot Q i0 false ⟨some d, .binOp op t x y t', ty, pos, af, none⟩ lq ⟨T, H, M⟩ := RN_cmp hx hy hb hdo hnext
abbrev I (n : Int) : AV := .pl (.int .i64 n)
abbrev B (b : Bool) : AV := .pl (.bool b)
abbrev U (b : UInt8) : AV := .pl (.int .u8 (b.toNat : Int))
abbrev S (l : List UInt8) : AV := .pl (.string ⟨l.toArray⟩)
abbrev F {α : Type} (e : α → List AV) (l : List α) : List AV := l.flatMap e
theorem bind_some {α ρ : Type} {g : Option α} {kk : α → Option ρ} {r : ρ} (h : g.bind kk = some r) : ∃ v, g = some v ∧ kk v = some r := by
  cases g with
  | none => cases h
  | some v => exact ⟨v, rfl, h⟩
theorem cond_some {α : Type} {b : Bool} {x y : Option α} {r : α} (h : (bif b then x else y) = some r) : (b = true ∧ x = some r) ∨ (b = false ∧ y = some r) := by
  cases b with
  | true => exact .inl ⟨rfl, h⟩
  | false => exact .inr ⟨rfl, h⟩
theorem Le_vptr (xs ys : List AV) : AV.Le (.vptr (xs ++ ys)) (.vptr xs) := by
  intro F β w v h
  obtain ⟨b, o, rfl, h1, h2, h3⟩ := h.vptr_inv;exact .c (VRel.vptr_mk h1 h2 fun i x hx => h3 i x (by rw [List.getElem?_append_left (List.getElem?_eq_some_iff.1 hx).1]; exact hx))
def cI (n : Int) : List AV := [I n]
def cR (n : Int) : List AV := [.pl (.int .i32 n)]
def cU (b : UInt8) : List AV := [U b]
def cS (l : List UInt8) : List AV := [S l]
def oC {α : Type} (e : α → List AV) (o : Option α) : List AV := match o with | none => [] | some x => e x
def oP {α : Type} (e : α → List AV) (o : Option α) : AV := .optr o.isNone (oC e o)
theorem F_cU : ∀ l : List UInt8, F cU l = encB l
  | [] => rfl
  | b :: r => by rw [F, List.flatMap_cons, ← F, F_cU r]; rfl
theorem F_length {α : Type} {e : α → List AV} {k : Nat} (hz : ∀ a, (e a).length = k) (l : List α) : (F e l).length = l.length * k := flat_length hz l
theorem F_app {α : Type} {e : α → List AV} {k : Nat} (hz : ∀ a, (e a).length = k) {l m : List α} : F e (l ++ m) = List.take (l.length * k) (List.drop 0 (F e l)) ++ F e m := by
  rw [List.drop_zero, List.take_of_length_le (by rw [F_length hz]; omega), F, List.flatMap_append]
theorem F_drop {α : Type} {e : α → List AV} {k : Nat} (hz : ∀ a, (e a).length = k) : ∀ (l : List α) (i : Nat), (F e l).drop (i * k) = F e (l.drop i)
  | l, 0 => by simp
  | [], i + 1 => by simp [F]
  | a :: r, i + 1 => by
    rw [F, List.flatMap_cons, List.drop_succ_cons, ← F_drop hz r i, Nat.add_mul, Nat.one_mul, Nat.add_comm, ← List.drop_drop, List.drop_left' (hz a)]
theorem F_takeN {α : Type} {e : α → List AV} {k : Nat} (hz : ∀ a, (e a).length = k) : ∀ (l : List α) (i : Nat), (F e l).take (i * k) = F e (l.take i)
  | l, 0 => by simp
  | [], i + 1 => by simp [F]
  | a :: r, i + 1 => by
    rw [F, List.flatMap_cons, List.take_succ_cons, F, List.flatMap_cons, ← F, ← F, ← F_takeN hz r i, Nat.add_mul, Nat.one_mul, Nat.add_comm, List.take_append, List.take_of_length_le (by rw [hz]; omega), hz, Nat.add_sub_cancel_left]
theorem F_sub {α : Type} {e : α → List AV} {k : Nat} (hz : ∀ a, (e a).length = k) (l : List α) (i n : Nat) : ((F e l).drop (i * k)).take (n * k) = F e ((l.drop i).take n) := by rw [F_drop hz, F_takeN hz]
theorem F_at {α : Type} {e : α → List AV} {k : Nat} (hz : ∀ a, (e a).length = k) {l : List α} {i : Int} {a : α} (ha : at' l i = some a) : (F e l).drop (i.toNat * k) = e a ++ F e (l.drop (i.toNat + 1)) := by
  obtain ⟨h0, hlt, hg⟩ := at'_some ha
  have hi : i.toNat < l.length := by omega
  rw [List.getElem?_eq_getElem hi] at hg
  cases hg
  exact flat_drop hz l i.toNat hi
theorem F_take {α : Type} {e : α → List AV} {k : Nat} (hz : ∀ a, (e a).length = k) {l : List α} {i : Int} {a : α} (ha : at' l i = some a) : ((F e l).drop (i.toNat * k)).take k = e a := by
  rw [F_at hz ha, List.take_append, List.take_of_length_le (by rw [hz]; omega), hz, Nat.sub_self, List.take_zero, List.append_nil]
theorem F_head {α : Type} {e : α → List AV} {k o : Nat} (hz : ∀ a, (e a).length = k) {l : List α} {i : Int} {a : α} {x : AV} (ha : at' l i = some a) (hc : (e a)[o]? = some x) : ((F e l).drop (i.toNat * k + o)).head? = some x := by
  have := (List.getElem?_eq_some_iff.1 hc).1
  rw [← List.drop_drop, F_at hz ha, List.drop_append_of_le_length (by omega), List.head?_append, List.head?_drop, hc]; rfl
theorem lt_eq : ∀ l m : List UInt8, Op.bytesLess l m = lt l m
  | _, [] => by cases ‹List UInt8› <;> rfl
  | [], _ :: _ => rfl
  | a :: x, b :: y => by simp only [Op.bytesLess, lt, lt_eq x y]
theorem wrap_u8_eq (n : Int) : IntKind.u8.wrap n = ((u8 n).toNat : Int) := by
  have e : (2 ^ IntKind.u8.bits : Int) = 256 := by decide
  unfold IntKind.wrap u8
  simp only [e, show IntKind.u8.signed = false from rfl, Bool.false_and, Bool.false_eq_true, if_false]
  rw [UInt8.toNat_ofNat']
  omega
theorem closedL_app : ∀ {l m : List AV}, AV.closedL l = true → AV.closedL m = true → AV.closedL (l ++ m) = true
  | [], _, _, h => h
  | x :: r, m, h, h' => by simp only [AV.closedL, Bool.and_eq_true] at h; simp only [List.cons_append, AV.closedL, Bool.and_eq_true]; exact ⟨h.1, closedL_app h.2 h'⟩
theorem onlyL_app {ns : List Nat} : ∀ {l m : List AV}, AV.onlyL ns l = true → AV.onlyL ns m = true → AV.onlyL ns (l ++ m) = true
  | [], _, _, h => h
  | x :: r, m, h, h' => by simp only [AV.onlyL, Bool.and_eq_true] at h; simp only [List.cons_append, AV.onlyL, Bool.and_eq_true]; exact ⟨h.1, onlyL_app h.2 h'⟩
mutual
theorem mapN_closed {f : AV → AV} : ∀ {x : AV}, x.closed = true → x.mapN f = x
  | .agg cs, h => by rw [AV.mapN, mapNL_closed (by simpa [AV.closed] using h)]
  | .tup cs, h => by rw [AV.mapN, mapNL_closed (by simpa [AV.closed] using h)]
  | .fn g cs ds, h => by
    simp only [AV.closed, Bool.and_eq_true] at h
    rw [AV.mapN, mapNL_closed h.1, mapNL_closed h.2]
  | .ifc t x, h => by rw [AV.mapN, mapN_closed (by simpa [AV.closed] using h)]
  | .nptr z b o, h => by cases h
  | .sl b o n, h => by cases h
  | .mp b, h => by cases h
  | .it b, h => by cases h
  | .pl v, _ => rfl
  | .optr z cs, _ => rfl
  | .vs n cs, _ => rfl
  | .vm _ _, _ => rfl
  | .anyp, h => rfl
  | .junk, h => rfl
  | .gone, h => rfl
theorem mapNL_closed {f : AV → AV} : ∀ {l : List AV}, AV.closedL l = true → AV.mapNL f l = l
  | [], _ => rfl
  | x :: r, h => by
    simp only [AV.closedL, Bool.and_eq_true] at h
    rw [AV.mapNL, mapN_closed h.1, mapNL_closed h.2]
end
mutual
theorem closed_only {ns : List Nat} : ∀ {x : AV}, x.closed = true → x.only ns = true
  | .pl _, _ => rfl
  | .agg cs, h => closedL_only (l := cs) h
  | .tup cs, h => closedL_only (l := cs) h
  | .fn _ cs ds, h => by
    simp only [AV.closed, Bool.and_eq_true] at h
    simp only [AV.only, Bool.and_eq_true]
    exact ⟨closedL_only h.1, closedL_only h.2⟩
  | .ifc _ x, h => closed_only (x := x) h
  | .optr _ _, _ => rfl
  | .vs _ _, _ => rfl
  | .vm _ _, _ => rfl
  | .nptr _ _ _, h => by cases h
  | .sl _ _ _, h => by cases h
  | .mp _, h => by cases h
  | .it _, h => by cases h
  | .anyp, h => by cases h
  | .junk, h => by cases h
  | .gone, h => by cases h
theorem closedL_only {ns : List Nat} : ∀ {l : List AV}, AV.closedL l = true → AV.onlyL ns l = true
  | [], _ => rfl
  | x :: r, h => by
    simp only [AV.closedL, Bool.and_eq_true] at h
    simp only [AV.onlyL, Bool.and_eq_true]
    exact ⟨closed_only h.1, closedL_only h.2⟩
end
theorem get_fn {i : Nat} {k : FuncId} {fc : List AV} {f : AV → AV} (h : get T i = some (.fn (.func k) [] fc)) (hc : AV.closedL fc = true) : get (mapT f T) i = some (.fn (.func k) [] fc) := by
  rw [get_mapT, h, Option.map_some, AV.mapN, mapNL_closed hc]; rfl
mutual
theorem kill_closed (b : Nat) : ∀ {x : AV}, x.closed = true → x.kill b = x
  | .pl _, _ => rfl
  | .agg cs, h => by rw [AV.kill, killL_closed b (l := cs) h]
  | .tup cs, h => by rw [AV.kill, killL_closed b (l := cs) h]
  | .fn _ cs ds, h => by
    simp only [AV.closed, Bool.and_eq_true] at h
    rw [AV.kill, killL_closed b h.1, killL_closed b h.2]
  | .ifc _ x, h => by rw [AV.kill, kill_closed b (x := x) h]
  | .optr _ _, _ => rfl
  | .vs _ _, _ => rfl
  | .vm _ _, _ => rfl
  | .nptr _ _ _, h => by cases h
  | .sl _ _ _, h => by cases h
  | .mp _, h => by cases h
  | .it _, h => by cases h
  | .anyp, h => by cases h
  | .junk, h => by cases h
  | .gone, h => by cases h
theorem killL_closed (b : Nat) : ∀ {l : List AV}, AV.closedL l = true → AV.killL b l = l
  | [], _ => rfl
  | x :: r, h => by
    simp only [AV.closedL, Bool.and_eq_true] at h
    rw [AV.killL, kill_closed b h.1, killL_closed b h.2]
end
theorem Sat.weak1 {i : Nat} {x y : AV} {a : Act} {w : World} (h : Sat c ⟨(i, x) :: T, H, M⟩ a w) (hle : AV.Le x y) : Sat c ⟨(i, y) :: T, H, M⟩ a w := by
  obtain ⟨β, hs⟩ := h;refine ⟨β, hs.defers, hs.size, hs.heap, fun j z hz => ?_, hs.keeps, hs.stay⟩
  rw [get_cons] at hz
  by_cases e : i = j
  · rw [if_pos e] at hz; cases hz
    obtain ⟨v, hv, hr⟩ := hs.slot j x (by rw [get_cons, if_pos e]);exact ⟨v, hv, hle _ _ _ _ hr⟩
  · rw [if_neg e] at hz
    exact hs.slot j z (by rw [get_cons, if_neg e]; exact hz)
theorem F_append {α : Type} (e : α → List AV) (l m : List α) : F e (l ++ m) = F e l ++ F e m := by simp only [F, List.flatMap_append]
theorem F_rep {α : Type} (e : α → List AV) (z : α) : ∀ n : Nat, (List.replicate n (e z)).flatMap id = F e (List.replicate n z)
  | 0 => rfl
  | n + 1 => by rw [List.replicate_succ, List.flatMap_cons, F_rep e z n, List.replicate_succ, F, F, List.flatMap_cons]; rfl
theorem updL_right {x y es : List AV} {o : Nat} : updL (x ++ y) (x.length + o) es = x ++ updL y o es := by
  unfold updL
  rw [List.take_length_add_append, List.append_assoc, Nat.add_assoc, List.drop_length_add_append]
theorem updL_left {x y es : List AV} {o : Nat} (h : o + es.length ≤ x.length) : updL (x ++ y) o es = updL x o es ++ y := by
  unfold updL
  rw [List.take_append_of_le_length (by omega), List.drop_append_of_le_length h]
  simp only [List.append_assoc]
theorem F_put {α : Type} {e : α → List AV} {k o : Nat} (hz : ∀ a, (e a).length = k) {l : List α} {i : Int} {a a' : α} {es : List AV} (ha : at' l i = some a) (hl : o + es.length ≤ k) (hu : updL (e a) o es = e a') : updL (F e l) (i.toNat * k + o) es = F e (l.set i.toNat a') := by
  obtain ⟨h0, hlt, hg⟩ := at'_some ha
  have hi : i.toNat < l.length := by omega
  rw [List.getElem?_eq_getElem hi] at hg
  cases hg
  have e1 : l = l.take i.toNat ++ (l[i.toNat] :: l.drop (i.toNat + 1)) := by rw [← List.drop_eq_getElem_cons hi, List.take_append_drop]
  have e2 : l.set i.toNat a' = l.take i.toNat ++ (a' :: l.drop (i.toNat + 1)) := List.set_eq_take_append_cons_drop.trans (if_pos hi)
  rw [e2]
  conv => lhs; rw [e1]
  have hlen : (F e (l.take i.toNat)).length = i.toNat * k := by rw [F_length hz, List.length_take, Nat.min_eq_left (by omega)]
  rw [F_append, F_append, ← hlen, updL_right]
  have e3 : ∀ b m, F e (b :: m) = e b ++ F e m := fun b m => by simp only [F, List.flatMap_cons]
  rw [e3, e3, updL_left (by rw [hz]; exact hl), hu]
theorem k_seq {x y : Code} {s : St} (h : Run c (Exit.then (y.wp c.P Q) Q) x s) : Run c Q (.seq x y) s := Run_seq h
theorem k_if {ρ : Type} {x : Operand} {p q : Code} {b : Bool} {o1 o2 : Option ρ} {r : ρ} (h : (bif b then o1 else o2) = some r) (ht : b = true → o1 = some r → Run c Q p ⟨T, H, M⟩) (hf : b = false → o2 = some r → Run c Q q ⟨T, H, M⟩)
    (hx : opv T x = some (.pl (.bool b)) := by exact rfl) : Run c Q (.cond x p q) ⟨T, H, M⟩ := by
  rcases cond_some h with ⟨rfl, h⟩ | ⟨rfl, h⟩
  · exact Run_cond_true hx (ht rfl h)
  · exact Run_cond_false hx (hf rfl h)
theorem k_t {x : Operand} {p q : Code} (h : Run c Q p ⟨T, H, M⟩) (hx : opv T x = some (.pl (.bool true)) := by exact rfl) : Run c Q (.cond x p q) ⟨T, H, M⟩ := Run_cond_true hx h
theorem k_f {x : Operand} {p q : Code} (h : Run c Q q ⟨T, H, M⟩) (hx : opv T x = some (.pl (.bool false)) := by exact rfl) : Run c Q (.cond x p q) ⟨T, H, M⟩ := Run_cond_false hx h
theorem k_reg {id : Nat} {l : List Oper} {s : St} (h : RunL c l.toArray Q l s) : Run c Q (.region id l.toArray false) s := Run_region h
theorem k_mix {id : Nat} {lo : List Oper} {s : St} (hot : List Nat) (l : Plan) (hm : c.P.follows .mixedOrders = true) (h : RunM c lo.toArray hot Q l s) (hB : mixOk lo.toArray hot l = true := by kernel_rfl) : Run c Q (.region id lo.toArray true) s := Run_region_m hot l hm hB h
theorem k_nil {s : St} (h : Fin c Q .normal s) : RunL c ops Q [] s := RunL_nil h
theorem m_nil {s : St} (h : Fin c Q .normal s) : RunM c ops hot Q .done s := RunM_nil h
theorem gq {o : Oper} {s : St} (h : RunN c ops hot Q i0 false o lq s) (hi : ops[i0]? = some o := by (simp only [List.getElem?_toArray, List.getElem?_cons_zero, List.getElem?_cons_succ]; exact rfl)) : RunM c ops hot Q (.q i0 lq) s := RunM_getq hi h
theorem ge {o : Oper} {s : St} (h : RunN c ops hot Q i0 true o lq s) (hi : ops[i0]? = some o := by (simp only [List.getElem?_toArray, List.getElem?_cons_zero, List.getElem?_cons_succ]; exact rfl)) : RunM c ops hot Q (.e i0 lq) s := RunM_gete hi h
theorem l_on {op : Op} {j : Nat} {b : Bool} {q : Nat} (h : RunL c ops Q (⟨some d, op, ty, pos, af, none⟩ :: rest) ⟨T, H, M⟩) (hj : ((ops[j]?).bind (·.dst)) = some q := by exact rfl) (hx : get T q = some (.pl (.bool b)) := by exact rfl) : RunL c ops Q (⟨some d, op, ty, pos, af, some (j, b)⟩ :: rest) ⟨T, H, M⟩ := RL_on hj hx h
def offB : Value → Bool → Bool
  | .bool b', b => b' != b
  | _, _ => true
theorem off_wanted {s : St} {β : Emb} {a : Act} {w : World} (hs : SatB c s β a w) {o : Oper} {j q : Nat} {b : Bool} {u : Value} (hg : o.guard = some (j, b)) (hj : ((ops[j]?).bind (·.dst)) = some q) (hx : get s.T q = some (.pl u)) (hu : offB u b = true) : Region.wanted o (yielded ops a.tmps) = false := by
  obtain ⟨v, hv, hr⟩ := hs.slot q _ hx;obtain rfl := hr.pl_eq
  simp only [Region.wanted, hg, yielded, hj, Option.bind_some, hv]
  cases v <;> first | rfl | (simp [offB] at hu; rename_i b'; cases b <;> cases b' <;> simp_all)
theorem l_off {op : Op} {j : Nat} {b : Bool} {u : Value} {q : Nat} (h : RunL c ops Q rest ⟨(d, .pl undef) :: T, H, M⟩) (hj : ((ops[j]?).bind (·.dst)) = some q := by exact rfl) (hx : get T q = some (.pl u) := by exact rfl) (hu : offB u b = true := by exact rfl) (hd : dstOk c.N (some d) = true := by exact rfl) : RunL c ops Q (⟨some d, op, ty, pos, af, some (j, b)⟩ :: rest) ⟨T, H, M⟩ := by
  rintro a w ⟨β, hs⟩
  have hw := off_wanted hs (o := ⟨some d, op, ty, pos, af, some (j, b)⟩) rfl hj hx hu
  unfold wpList
  rw [hw]
  exact h _ _ ⟨β, hs.put hd (.c (.pl undef))⟩
theorem n_on {op : Op} {j : Nat} {b e : Bool} {q : Nat} (h : RunN c ops hot Q i0 e ⟨some d, op, ty, pos, af, none⟩ lq ⟨T, H, M⟩) (hj : ((ops[j]?).bind (·.dst)) = some q := by exact rfl) (hx : get T q = some (.pl (.bool b)) := by exact rfl) : RunN c ops hot Q i0 e ⟨some d, op, ty, pos, af, some (j, b)⟩ lq ⟨T, H, M⟩ := RN_on hj hx h
theorem n_off {op : Op} {j : Nat} {b e : Bool} {u : Value} {q : Nat} (h : RunM c ops hot Q lq ⟨(d, .pl undef) :: T, H, M⟩) (hj : ((ops[j]?).bind (·.dst)) = some q := by exact rfl) (hx : get T q = some (.pl u) := by exact rfl) (hu : offB u b = true := by exact rfl) (hd : dstOk c.N (some d) = true := by exact rfl) : RunN c ops hot Q i0 e ⟨some d, op, ty, pos, af, some (j, b)⟩ lq ⟨T, H, M⟩ := by
  rintro g hi hwt a w ⟨β, hs⟩
  have hw : Region.wanted { (⟨some d, op, ty, pos, af, some (j, b)⟩ : Oper) with guard := g } (yielded ops a.tmps) = false := by
    rw [hwt a w β hs]
    exact off_wanted hs rfl hj hx hu
  have hk := h _ _ ⟨β, hs.put hd (x := .pl undef) (v := undef) (.c (.pl undef))⟩
  cases e with
  | false =>
    simp only [Plan.step, wpMix, hi]
    exact ⟨undef, .inr ⟨hw, rfl⟩, hk⟩
  | true =>
    simp only [Plan.step, wpMix, wpOp, hi, hw]
    exact ⟨.inr (RowKit.Below.refl _ _), hk⟩
theorem l_split {ρ : Type} {op : Op} {j : Nat} {b e : Bool} {q : Nat} {o1 o2 : Option ρ} {r : ρ} (h : (bif e then o1 else o2) = some r) (ht : e = true → o1 = some r → RunL c ops Q (⟨some d, op, ty, pos, af, some (j, b)⟩ :: rest) ⟨(q, .pl (.bool true)) :: T, H, M⟩)
    (hf : e = false → o2 = some r → RunL c ops Q (⟨some d, op, ty, pos, af, some (j, b)⟩ :: rest) ⟨(q, .pl (.bool false)) :: T, H, M⟩) (hj : ((ops[j]?).bind (·.dst)) = some q := by exact rfl) (hx : get T q = some (.pl (.bool e)) := by exact rfl) : RunL c ops Q (⟨some d, op, ty, pos, af, some (j, b)⟩ :: rest) ⟨T, H, M⟩ := by
  rcases cond_some h with ⟨rfl, h⟩ | ⟨rfl, h⟩
  · exact RL_split hj hx (fun e => ht rfl h) (fun e => by cases e)
  · exact RL_split hj hx (fun e => by cases e) (fun e => hf rfl h)
theorem n_split {ρ : Type} {op : Op} {j : Nat} {b e f : Bool} {q : Nat} {o1 o2 : Option ρ} {r : ρ} (h : (bif f then o1 else o2) = some r) (ht : f = true → o1 = some r → RunN c ops hot Q i0 e ⟨some d, op, ty, pos, af, some (j, b)⟩ lq ⟨(q, .pl (.bool true)) :: T, H, M⟩)
    (hf : f = false → o2 = some r → RunN c ops hot Q i0 e ⟨some d, op, ty, pos, af, some (j, b)⟩ lq ⟨(q, .pl (.bool false)) :: T, H, M⟩) (hj : ((ops[j]?).bind (·.dst)) = some q := by exact rfl) (hx : get T q = some (.pl (.bool f)) := by exact rfl) : RunN c ops hot Q i0 e ⟨some d, op, ty, pos, af, some (j, b)⟩ lq ⟨T, H, M⟩ := by
  rcases cond_some h with ⟨rfl, h⟩ | ⟨rfl, h⟩
  · exact RN_split hj hx (fun e => ht rfl h) (fun e => by cases e)
  · exact RN_split hj hx (fun e => by cases e) (fun e => hf rfl h)
theorem f_t {y : Code} {s : St} (h : Run c Q y s) : Fin c (Exit.then (y.wp c.P Q) Q) .normal s := h
theorem f_te {K : Act → World → Prop} {id : Nat} {s : St} (h : Fin c Q (.exit id) s) : Fin c (Exit.then K Q) (.exit id) s := h
theorem f_tr {K : Act → World → Prop} {s : St} (h : Fin c Q .ret s) : Fin c (Exit.then K Q) .ret s := h
theorem f_b {id : Nat} {s : St} (h : Fin c Q .normal s) : Fin c (Exit.inBlock id Q) .normal s := h
theorem f_br {id : Nat} {s : St} (h : Fin c Q .ret s) : Fin c (Exit.inBlock id Q) .ret s := h
theorem f_be {id : Nat} {s : St} (h : Fin c Q .normal s) : Fin c (Exit.inBlock id Q) (.exit id) s := Fin_block_exit h
theorem f_bo {id id' : Nat} {s : St} (h : Fin c Q (.exit id') s) (hne : Nat.beq id' id = false := by exact rfl) : Fin c (Exit.inBlock id Q) (.exit id') s := Fin_block_on hne h
def Ex {ω : Type} (X : ω → Exit × St) (c : Ctx) (t : ω) : Exit → Act → World → Prop := fun e a w => (X t).1 = e ∧ Sat c (X t).2 a w
theorem Run_mono {x : Code} {s : St} {Q' : Exit → Act → World → Prop} (h : Run c Q x s) (hq : ∀ e a w, Q e a w → Q' e a w) : Run c Q' x s := fun a w hs => wp_mono (h a w hs) (fun e a w => hq e a w)
theorem k_cut {ω ρ : Type} {x : Code} {s : St} {o : Option ω} {kk : ω → Option ρ} {r : ρ} (X : ω → Exit × St) (h : o.bind kk = some r) (h1 : ∀ t, o = some t → Run c (Ex X c t) x s) (h2 : ∀ t, kk t = some r → Fin c Q (X t).1 (X t).2) : Run c Q x s := by
  obtain ⟨t, ht, hk⟩ := bind_some h
  exact Run_mono (h1 t ht) fun e a w ⟨he, hs⟩ => by subst he; exact h2 t hk a w hs
theorem k_loop {τ ω ρ : Type} {x : Code} {f : τ → Option (τ ⊕ ω)} {y0 : τ} {kk : ω → Option ρ} {r : ρ} {N : List Nat} (S : τ → St) (X : ω → Exit × St) (σ : List (Nat × Nat)) (hB : ∀ b p, c.β0 b = some p → mem b N = true) (h : (iter f y0).bind kk = some r)
    (h1 : ∀ y t, f y = some t → Run c (Exit.then (fun a w => ∃ z, t = .inl z ∧ Sat c (S z) a w) (fun e a w => ∃ q, t = .inr q ∧ Ex X c q e a w)) x (S y)) (h2 : ∀ q, kk q = some r → Fin c Q (X q).1 (X q).2)
    (hσ : okS σ = true := by exact rfl) (hH : pickS σ σ H = some (S y0).H := by exact rfl) (hT : Sub (S y0).T (mapT (reL σ) T) := by (repeat' first | exact True.intro | exact rfl | exact get_fn rfl (And.left (by assumption)) | exact get_fnk rfl (And.left (by assumption)) | exact get_fnk2 rfl (And.left (by assumption)) | (refine get_fnx rfl ?_; (have hcc := And.left (by assumption : AV.closedL _ = true ∧ AV.onlyL [] _ = true)); simp only [killL_closed _ hcc, mapNL_closed hcc]) | apply And.intro)) (hM : okM σ M (S y0).M N = true := by exact rfl) : Run c Q (.loop x) ⟨T, H, M⟩ := by
  obtain ⟨q, hq, hk⟩ := bind_some h;obtain ⟨n, hn⟩ := iterN_of hq
  intro a w hs
  have hs0 : Sat c (S y0) a w := hs.to σ hσ hH hT hB hM
  refine wp_mono (Run_loop (c := c) (Q := Ex X c q) (x := x) (fun y : Nat × τ => S y.2) (fun y => iterN f y.1 y.2 = some q) (fun y => y.1) (n, y0) hn (fun y hy => ?_) a w hs0) fun e a w ⟨he, hs⟩ => by subst he; exact h2 q hk a w hs
  obtain ⟨m, y⟩ := y
  cases m with
  | zero => cases hy
  | succ m =>
    obtain ⟨t, ht, hkt⟩ := bind_some hy;refine Run_mono (h1 y t ht) fun e a w hq' => ?_
    cases e with
    | normal =>
      obtain ⟨z, rfl, hz⟩ := hq';exact ⟨(m, z), hkt, Nat.lt_succ_self m, hz⟩
    | exit id => obtain ⟨q', rfl, hx⟩ := hq'; cases hkt; exact hx
    | goto l => obtain ⟨q', rfl, hx⟩ := hq'; cases hkt; exact hx
    | ret => obtain ⟨q', rfl, hx⟩ := hq'; cases hkt; exact hx
    | panic ch => obtain ⟨q', rfl, hx⟩ := hq'; cases hkt; exact hx
    | outgrown => obtain ⟨q', rfl, hx⟩ := hq'; cases hkt; exact hx
theorem k_next {τ ω : Type} {S : τ → St} {z0 : τ} {t : τ ⊕ ω} {N : List Nat} (σ : List (Nat × Nat)) (hB : ∀ b p, c.β0 b = some p → mem b N = true) (h : some (Sum.inl z0) = some t)
    (hσ : okS σ = true := by exact rfl) (hH : pickS σ σ H = some (S z0).H := by exact rfl) (hT : Sub (S z0).T (mapT (reL σ) T) := by (repeat' first | exact True.intro | exact rfl | exact get_fn rfl (And.left (by assumption)) | exact get_fnk rfl (And.left (by assumption)) | exact get_fnk2 rfl (And.left (by assumption)) | (refine get_fnx rfl ?_; (have hcc := And.left (by assumption : AV.closedL _ = true ∧ AV.onlyL [] _ = true)); simp only [killL_closed _ hcc, mapNL_closed hcc]) | apply And.intro)) (hM : okM σ M (S z0).M N = true := by exact rfl) :
    Fin c (Exit.then (fun a w => ∃ z, t = .inl z ∧ Sat c (S z) a w) Q) .normal ⟨T, H, M⟩ := by
  cases h
  exact fun a w hs => ⟨z0, rfl, hs.to σ hσ hH hT hB hM⟩
theorem k_brk {τ ω : Type} {X : ω → Exit × St} {K : Act → World → Prop} {q0 : ω} {t : τ ⊕ ω} {e : Exit} {N : List Nat} (σ : List (Nat × Nat)) (hB : ∀ b p, c.β0 b = some p → mem b N = true) (h : some (Sum.inr q0) = some t)
    (he : (X q0).1 = e := by exact rfl) (hn : (match e with | .normal => false | _ => true) = true := by exact rfl) (hσ : okS σ = true := by exact rfl) (hH : pickS σ σ H = some (X q0).2.H := by exact rfl) (hT : Sub (X q0).2.T (mapT (reL σ) T) := by (repeat' first | exact True.intro | exact rfl | exact get_fn rfl (And.left (by assumption)) | exact get_fnk rfl (And.left (by assumption)) | exact get_fnk2 rfl (And.left (by assumption)) | (refine get_fnx rfl ?_; (have hcc := And.left (by assumption : AV.closedL _ = true ∧ AV.onlyL [] _ = true)); simp only [killL_closed _ hcc, mapNL_closed hcc]) | apply And.intro)) (hM : okM σ M (X q0).2.M N = true := by exact rfl) :
    Fin c (Exit.then K (fun e a w => ∃ q, t = .inr q ∧ Ex X c q e a w)) e ⟨T, H, M⟩ := by
  cases h
  intro a w hs
  have : Sat c (X q0).2 a w := hs.to σ hσ hH hT hB hM
  cases e with
  | normal => cases hn
  | exit id => exact ⟨q0, rfl, he, this⟩
  | goto l => exact ⟨q0, rfl, he, this⟩
  | ret => exact ⟨q0, rfl, he, this⟩
  | panic ch => exact ⟨q0, rfl, he, this⟩
  | outgrown => exact ⟨q0, rfl, he, this⟩
theorem k_out {ω : Type} {X : ω → Exit × St} {q0 t : ω} {e : Exit} {N : List Nat} (σ : List (Nat × Nat)) (hB : ∀ b p, c.β0 b = some p → mem b N = true) (h : some q0 = some t)
    (he : (X q0).1 = e := by exact rfl) (hσ : okS σ = true := by exact rfl) (hH : pickS σ σ H = some (X q0).2.H := by exact rfl) (hT : Sub (X q0).2.T (mapT (reL σ) T) := by (repeat' first | exact True.intro | exact rfl | exact get_fn rfl (And.left (by assumption)) | exact get_fnk rfl (And.left (by assumption)) | exact get_fnk2 rfl (And.left (by assumption)) | (refine get_fnx rfl ?_; (have hcc := And.left (by assumption : AV.closedL _ = true ∧ AV.onlyL [] _ = true)); simp only [killL_closed _ hcc, mapNL_closed hcc]) | apply And.intro)) (hM : okM σ M (X q0).2.M N = true := by exact rfl) :
    Fin c (Ex X c t) e ⟨T, H, M⟩ := by
  cases h
  exact fun a w hs => ⟨he, hs.to σ hσ hH hT hB hM⟩
theorem k_exit {id : Nat} {s : St} (h : Fin c Q (.exit id) s) : Run c Q (.exit id) s := Run_exit h
theorem k_retc {s : St} (h : Fin c Q .ret s) : Run c Q .ret s := Run_ret h
theorem k_skip {s : St} (h : Fin c Q .normal s) : Run c Q .skip s := Run_skip h
theorem k_block {id : Nat} {x : Code} {s : St} (h : Run c (Exit.inBlock id Q) x s) : Run c Q (.block id x) s := Run_block h
theorem k_ret {ρ : Type} {P : Program} {U : List (Nat × TI)} {hU : TabOk P U} {F : Nat → Prop} {β : Emb} {w0 : World} {N : Nat} {fn : Func} {H' : ρ → List (Nat × AObj)} {Nm mv : List Nat} {v r : ρ} {E : ρ → AV} {r' : AV} (σ : List (Nat × Nat))
    (hN : ∀ b p, β b = some p → mem b Nm = true) (h : some v = some r) (hres : resAV U T H fn.results.toList = some r' := by exact rfl) (hr : r'.mapN (reL σ) = E v := by exact rfl) (hσ : okS σ = true := by exact rfl) (hH : pickS σ σ H = some (H' v) := by exact rfl) (hM : okM σ M mv Nm = true := by exact rfl) :
    Fin ⟨P, U, hU, F, β, w0, N, []⟩ (bodyPost P fn (Rpost (fun x H'' M' => x = E r ∧ H'' = H' r ∧ M' = mv) F β w0)) .ret ⟨T, H, M⟩ := by
  cases h
  exact fun a w hs => ret_x σ hN hres hσ hr hH hM hs
theorem l_addw {t t' : TypeId} {x y : Operand} {k : IntKind} {m n : Int} (hnext : RunL c ops Q rest ⟨(d, .pl (.int k (k.wrap (m + n)))) :: T, H, M⟩) (hx : opv T x = some (.pl (.int k m)) := by exact rfl) (hy : opv T y = some (.pl (.int k n)) := by exact rfl) (hdo : dstOk c.N (some d) = true := by exact rfl) : RunL c ops Q (⟨some d, .binOp .add t x y t', ty, pos, af, none⟩ :: rest) ⟨T, H, M⟩ := RL_int hx hy (fun w' => by simp [binOp, Op.intArith]) hdo hnext
theorem l_subw {t t' : TypeId} {x y : Operand} {k : IntKind} {m n : Int} (hnext : RunL c ops Q rest ⟨(d, .pl (.int k (k.wrap (m - n)))) :: T, H, M⟩) (hx : opv T x = some (.pl (.int k m)) := by exact rfl) (hy : opv T y = some (.pl (.int k n)) := by exact rfl) (hdo : dstOk c.N (some d) = true := by exact rfl) : RunL c ops Q (⟨some d, .binOp .sub t x y t', ty, pos, af, none⟩ :: rest) ⟨T, H, M⟩ := RL_int hx hy (fun w' => by simp [binOp, Op.intArith]) hdo hnext
theorem l_mulw {t t' : TypeId} {x y : Operand} {k : IntKind} {m n : Int} (hnext : RunL c ops Q rest ⟨(d, .pl (.int k (k.wrap (m * n)))) :: T, H, M⟩) (hx : opv T x = some (.pl (.int k m)) := by exact rfl) (hy : opv T y = some (.pl (.int k n)) := by exact rfl) (hdo : dstOk c.N (some d) = true := by exact rfl) : RunL c ops Q (⟨some d, .binOp .mul t x y t', ty, pos, af, none⟩ :: rest) ⟨T, H, M⟩ := RL_int hx hy (fun w' => by simp [binOp, Op.intArith]) hdo hnext
theorem l_call {α ρ : Type} {P : Program} {g : Option α} {kk : α → Option ρ} {r : ρ} {E : α → AV} {cl : Call} {k : FuncId} {first cap es args : List AV} (h : g.bind kk = some r) (hs : ∀ v, g = some v → XSpec P k args [] (E v) [] []) (hn : ∀ v, g = some v → kk v = some r → RunL c ops Q rest ⟨(d, E v) :: T, H, M⟩)
    (hP : c.P = P := by exact rfl) (hk : calleeOf T cl.callee = some (k, first, cap) := by exact rfl) (ha : opvL T cl.args.toList = some es := by exact rfl) (hargs : first ++ es ++ cap = args := by exact rfl) (hcl : AV.closedL args = true := by first | exact rfl | (simp only [AV.closedL, AV.closed, AV.onlyL, AV.only, Bool.true_and, Bool.and_true]; first | exact And.left (by assumption) | exact And.right (by assumption))) (hdo : dstOk c.N (some d) = true := by exact rfl) : RunL c ops Q (⟨some d, .call cl, ty, pos, af, none⟩ :: rest) ⟨T, H, M⟩ := by
  obtain ⟨v, hv, h⟩ := bind_some h;exact RL_pcall (hs v hv).p hP hk ha hargs hcl hdo (hn v hv h)
theorem l_callB {α ρ : Type} {P : Program} {g : Option α} {kk : α → Option ρ} {r : ρ} {E : α → AV} {cl : Call} {k : FuncId} {first cap es args : List AV} (h : g.bind kk = some r) (hs : ∀ v, g = some v → XSpec P k args [] (E v) [] []) (hn : ∀ v, g = some v → kk v = some r → RunL c ops Q rest ⟨(d, E v) :: T, H, M⟩)
    (hP : c.P = P := by exact rfl) (hk : calleeOf T cl.callee = some (k, first, cap) := by exact rfl) (ha : opvL T cl.args.toList = some es := by exact rfl) (hargs : AV.mapNL (brwW H) (first ++ es ++ cap) = args := by exact rfl) (hr : ∀ v, (E v).flat = true := by exact fun _ => rfl) (hdo : dstOk c.N (some d) = true := by exact rfl) : RunL c ops Q (⟨some d, .call cl, ty, pos, af, none⟩ :: rest) ⟨T, H, M⟩ := by
  obtain ⟨v, hv, h⟩ := bind_some h
  subst hP
  exact RL_callB (hs v hv).p hk ha hargs (hr v) hdo (hn v hv h)
theorem l_callX {α ρ : Type} {P : Program} {g : Option α} {kk : α → Option ρ} {r : ρ} {E : α → AV} {Hf H1 H2 : List (Nat × AObj)} {H' : α → List (Nat × AObj)} {mv mv' : List Nat} {cl : Call} {k : FuncId} {first cap es args args0 : List AV} (ws : List (Nat × Nat)) (ns : List Nat) (h : g.bind kk = some r) (hs : ∀ v, g = some v → XSpec P k args Hf (E v) (H' v) mv)
    (hn : ∀ v, g = some v → kk v = some r → RunL c ops Q rest ⟨putT (kiT mv' T) (some d) ((E v).mapN (swL ws)), swH ws (H' v) ++ kiH mv' H2, mv' ++ M⟩) 
    (hmv : mv.map (swp ws) = mv' := by exact rfl) (hP : c.P = P := by exact rfl) (hk : calleeOf T cl.callee = some (k, first, cap) := by exact rfl) (ha : opvL T cl.args.toList = some es := by exact rfl) (ha0 : first ++ es ++ cap = args0 := by exact rfl) (hargs : AV.mapNL (swL ws) args0 = args := by exact rfl) (hH1 : hpick ns H = H1 := by exact rfl) (hHf : swH ws H1 = Hf := by exact rfl)
    (hok : honly ns H1 = true := by exact rfl) (hon : AV.onlyL ns args0 = true := by exact rfl) (hH2 : hrest ns H = H2 := by exact rfl) (hap : ∀ v, hapart (swH ws (H' v)) H2 = true := by exact fun _ => rfl) (hdo : dstOk c.N (some d) = true := by exact rfl) (hw : nodupB (swN ws) = true := by exact rfl) : RunL c ops Q (⟨some d, .call cl, ty, pos, af, none⟩ :: rest) ⟨T, H, M⟩ := by
  obtain ⟨v, hv, h⟩ := bind_some h
  subst hP hmv
  exact RL_callX ns  ((hs v hv).sw ws hw hargs hHf) hk ha ha0 hH1 hok hon hH2 (hap v) hdo (hn v hv h)
theorem l_at {α ρ : Type} {l : List α} {e : α → List AV} {kk : α → Option ρ} {r : ρ} {t : TypeId} {x y : Operand} {k : IntKind} {i : Int} {ti ei : TI} {et : TypeId} (h : (at' l i).bind kk = some r) (hn : ∀ a, at' l i = some a → kk a = some r → RunL c ops Q rest ⟨(d, .vptr (e a)) :: T, H, M⟩)
    (ht : tget c.U t = some ti := by exact rfl) (htd : ti.desc = .slice et := by exact rfl) (he : tget c.U et = some ei := by exact rfl) (hx : opv T x = some (.vs l.length (F e l)) := by exact rfl) (hy : opv T y = some (.pl (.int k i)) := by exact rfl) (hz : ∀ a, (e a).length = ei.size := by exact fun _ => rfl) (hdo : dstOk c.N (some d) = true := by exact rfl) : RunL c ops Q (⟨some d, .indexAddr t x y, ty, pos, af, none⟩ :: rest) ⟨T, H, M⟩ := by
  obtain ⟨a, ha, h⟩ := bind_some h;obtain ⟨h0, hlt, hg⟩ := at'_some ha
  have hi : i.toNat < l.length := by omega
  have hd : (F e l).drop (i.toNat * ei.size) = e a ++ F e (l.drop (i.toNat + 1)) := by
    have := flat_drop hz l i.toNat hi
    rw [List.getElem?_eq_getElem hi] at hg
    cases hg
    exact this
  exact RL_indexAddr_vsD ht htd he hx hy ⟨h0, hlt⟩ hd hdo fun a' w hs => hn a ha h a' w (hs.weak1 (Le_vptr _ _))
theorem l_lens {t : TypeId} {x : Operand} {l : List UInt8} {ti : TI} (hnext : RunL c ops Q rest ⟨(d, I (l.length : Int)) :: T, H, M⟩) (ht : tget c.U t = some ti := by exact rfl) (htd : ti.desc = .string := by exact rfl) (hx : opv T x = some (S l) := by exact rfl) (hdo : dstOk c.N (some d) = true := by exact rfl) : RunL c ops Q (⟨some d, .call { callee := .builtin .len, args := #[x], argTypes := #[t] }, ty, pos, af, none⟩ :: rest) ⟨T, H, M⟩ := RL_len_str ht htd hx hdo hnext
theorem l_seq {t t' : TypeId} {x y : Operand} {l m : List UInt8} (hnext : RunL c ops Q rest ⟨(d, B (l == m)) :: T, H, M⟩) (hx : opv T x = some (S l) := by exact rfl) (hy : opv T y = some (S m) := by exact rfl) (hdo : dstOk c.N (some d) = true := by exact rfl) : RunL c ops Q (⟨some d, .binOp .eql t x y t', ty, pos, af, none⟩ :: rest) ⟨T, H, M⟩ := RL_str hx hy (fun w' => by simp [Op.stringOp, ByteArray.toList_eq]) hdo hnext
theorem l_sne {t t' : TypeId} {x y : Operand} {l m : List UInt8} (hnext : RunL c ops Q rest ⟨(d, B (!(l == m))) :: T, H, M⟩) (hx : opv T x = some (S l) := by exact rfl) (hy : opv T y = some (S m) := by exact rfl) (hdo : dstOk c.N (some d) = true := by exact rfl) : RunL c ops Q (⟨some d, .binOp .neq t x y t', ty, pos, af, none⟩ :: rest) ⟨T, H, M⟩ := RL_str hx hy (fun w' => by simp [Op.stringOp, ByteArray.toList_eq]) hdo hnext
theorem l_slt {t t' : TypeId} {x y : Operand} {l m : List UInt8} (hnext : RunL c ops Q rest ⟨(d, B (lt l m)) :: T, H, M⟩) (hx : opv T x = some (S l) := by exact rfl) (hy : opv T y = some (S m) := by exact rfl) (hdo : dstOk c.N (some d) = true := by exact rfl) : RunL c ops Q (⟨some d, .binOp .lss t x y t', ty, pos, af, none⟩ :: rest) ⟨T, H, M⟩ := RL_str hx hy (fun w' => by simp [Op.stringOp, ByteArray.toList_eq, lt_eq]) hdo hnext
theorem l_sgt {t t' : TypeId} {x y : Operand} {l m : List UInt8} (hnext : RunL c ops Q rest ⟨(d, B (!(lt l m || l == m))) :: T, H, M⟩) (hx : opv T x = some (S l) := by exact rfl) (hy : opv T y = some (S m) := by exact rfl) (hdo : dstOk c.N (some d) = true := by exact rfl) : RunL c ops Q (⟨some d, .binOp .gtr t x y t', ty, pos, af, none⟩ :: rest) ⟨T, H, M⟩ := RL_str hx hy (fun w' => by simp [Op.stringOp, ByteArray.toList_eq, lt_eq]) hdo hnext
theorem l_ats {ρ : Type} {kk : UInt8 → Option ρ} {r : ρ} {t : TypeId} {x y : Operand} {l : List UInt8} {k : IntKind} {i : Int} {ti : TI} (h : (at' l i).bind kk = some r) (hn : ∀ a, at' l i = some a → kk a = some r → RunL c ops Q rest ⟨(d, U a) :: T, H, M⟩) (ht : tget c.U t = some ti := by exact rfl) (htd : ti.desc = .string := by exact rfl) (hx : opv T x = some (S l) := by exact rfl) (hy : opv T y = some (.pl (.int k i)) := by exact rfl) (hdo : dstOk c.N (some d) = true := by exact rfl) : RunL c ops Q (⟨some d, .index t x y, ty, pos, af, none⟩ :: rest) ⟨T, H, M⟩ := by
  obtain ⟨a, ha, h⟩ := bind_some h
  have h2 := hn a ha h
  obtain ⟨h0, hlt, hg⟩ := at'_some ha
  have hi : ((i.toNat : Nat) : Int) = i := Int.toNat_of_nonneg h0
  have hb : i.toNat < (ByteArray.mk l.toArray).size := by show i.toNat < l.length; omega
  rw [← hi] at hy
  have e : (ByteArray.mk l.toArray)[i.toNat]'hb = a := by
    rw [List.getElem?_eq_getElem (by exact hb)] at hg
    cases hg; rfl
  exact RL_index_str ht htd hx hy hb hdo (by rw [e]; exact h2)
theorem l_subs {ρ : Type} {kk : List UInt8 → Option ρ} {r : ρ} {t : TypeId} {x : Operand} {lo hi : Option Operand} {l : List UInt8} {i j : Int} {ti : TI} (h : (sub' l i j).bind kk = some r) (hn : ∀ v, sub' l i j = some v → kk v = some r → RunL c ops Q rest ⟨(d, S v) :: T, H, M⟩) (ht : tget c.U t = some ti := by exact rfl) (htd : ti.desc = .string := by exact rfl) (hx : opv T x = some (S l) := by exact rfl) (hlo : bnd T 0 lo = some i := by exact rfl) (hhi : bnd T (l.length : Int) hi = some j := by exact rfl) (hdo : dstOk c.N (some d) = true := by exact rfl) : RunL c ops Q (⟨some d, .slice t x lo hi none, ty, pos, af, none⟩ :: rest) ⟨T, H, M⟩ := by
  obtain ⟨v, hv, h⟩ := bind_some h
  have h2 := hn v hv h
  obtain ⟨h0, h1, h3, rfl⟩ := sub'_some hv
  have hi' : ((i.toNat : Nat) : Int) = i := Int.toNat_of_nonneg h0
  have hj' : ((j.toNat : Nat) : Int) = j := Int.toNat_of_nonneg (by omega)
  rw [← hi'] at hlo
  rw [← hj'] at hhi
  have e : (ByteArray.mk l.toArray).extract i.toNat j.toNat = ⟨((l.drop i.toNat).take (j.toNat - i.toNat)).toArray⟩ := by apply ByteArray.ext; simp
  unfold S at h2
  rw [← e] at h2
  exact RunL_q (s := ⟨T, H, M⟩) (q_slice_str ht htd hx hlo hhi (by omega) (by show j.toNat ≤ l.length; omega)) rfl hdo h2
theorem l_convU {src dst : TypeId} {x : Operand} {k : IntKind} {n : Int} {t1 t2 : TI} (hnext : RunL c ops Q rest ⟨(d, U (u8 n)) :: T, H, M⟩) (h1 : tget c.U src = some t1 := by exact rfl) (h2 : tget c.U dst = some t2 := by exact rfl) (hk : t2.desc = .int .u8 := by exact rfl) (hx : opv T x = some (.pl (.int k n)) := by exact rfl) (hdo : dstOk c.N (some d) = true := by exact rfl) : RunL c ops Q (⟨some d, .convert src dst x, ty, pos, af, none⟩ :: rest) ⟨T, H, M⟩ := RL_conv_int h1 h2 hk hx hdo (by rw [wrap_u8_eq]; exact hnext)
theorem l_bstr {src dst : TypeId} {x : Operand} {l : List UInt8} {t1 t2 ei : TI} {e : TypeId} (hnext : RunL c ops Q rest ⟨(d, S l) :: T, H, M⟩) (h1 : tget c.U src = some t1 := by exact rfl) (hd1 : t1.desc = .slice e := by exact rfl) (he : tget c.U e = some ei := by exact rfl) (hek : ei.desc = .int .u8 := by exact rfl) (h2 : tget c.U dst = some t2 := by exact rfl) (hd2 : t2.desc = .string := by exact rfl) (hx : opv T x = some (.vs l.length (F cU l)) := by exact rfl) (hdo : dstOk c.N (some d) = true := by exact rfl) : RunL c ops Q (⟨some d, .convert src dst x, ty, pos, af, none⟩ :: rest) ⟨T, H, M⟩ := RL_conv_bytes h1 hd1 he hek h2 hd2 hx rfl (F_cU l) rfl hdo hnext
theorem l_bstro {te : TypeId} {src dst : TypeId} {x : Operand} {l : List UInt8} {b fz : Nat} {t1 t2 ei : TI} {e : TypeId} (hnext : RunL c ops Q rest ⟨(d, S l) :: T, H, M⟩) (h1 : tget c.U src = some t1 := by exact rfl) (hd1 : t1.desc = .slice e := by exact rfl) (he : tget c.U e = some ei := by exact rfl) (hek : ei.desc = .int .u8 := by exact rfl) (h2 : tget c.U dst = some t2 := by exact rfl) (hd2 : t2.desc = .string := by exact rfl) (hx : opv T x = some (.sl b 0 l.length) := by exact rfl) (hb : hget H b = some (.row te 1 fz (F cU l)) := by exact rfl) (hdo : dstOk c.N (some d) = true := by exact rfl) : RunL c ops Q (⟨some d, .convert src dst x, ty, pos, af, none⟩ :: rest) ⟨T, H, M⟩ :=
  RL_conv_bytes h1 hd1 he hek h2 hd2 hx (show srcAt H 1 (.sl b 0 l.length) = some (l.length, encB l) by simp only [srcAt, hb, List.drop_zero]; rw [List.take_of_length_le (by rw [F_cU, encB_length]; omega), F_cU]) rfl rfl hdo hnext
theorem l_subf {α ρ : Type} {kk : List α → Option ρ} {r : ρ} {t : TypeId} {x : Operand} {lo hi : Option Operand} {l : List α} {e : α → List AV} {i j : Int} {ti ei : TI} {et : TypeId} (h : (sub' l i j).bind kk = some r) (hn : ∀ v, sub' l i j = some v → kk v = some r → RunL c ops Q rest ⟨(d, .vs v.length (F e v)) :: T, H, M⟩) (ht : tget c.U t = some ti := by exact rfl) (htd : ti.desc = .slice et := by exact rfl) (he : tget c.U et = some ei := by exact rfl) (hx : opv T x = some (.vs l.length (F e l)) := by exact rfl) (hlo : bnd T 0 lo = some i := by exact rfl) (hhi : bnd T (l.length : Int) hi = some j := by exact rfl) (hz : ∀ a, (e a).length = ei.size := by exact fun _ => rfl) (hdo : dstOk c.N (some d) = true := by exact rfl) : RunL c ops Q (⟨some d, .slice t x lo hi none, ty, pos, af, none⟩ :: rest) ⟨T, H, M⟩ := by
  obtain ⟨v, hv, h⟩ := bind_some h
  have h2 := hn v hv h
  obtain ⟨h0, h1, h3, rfl⟩ := sub'_some hv
  have hi' : ((i.toNat : Nat) : Int) = i := Int.toNat_of_nonneg h0
  have hj' : ((j.toNat : Nat) : Int) = j := Int.toNat_of_nonneg (by omega)
  rw [← hi'] at hlo
  rw [← hj'] at hhi
  have el : ((l.drop i.toNat).take (j.toNat - i.toNat)).length = j.toNat - i.toNat := by rw [List.length_take, List.length_drop]; omega
  rw [el] at h2
  exact RL_slice_vs ht htd he hx hlo hhi (by omega) (by omega) (F_sub hz l _ _) hdo h2
theorem l_ato {te : TypeId} {α ρ : Type} {l : List α} {e : α → List AV} {kk : α → Option ρ} {r : ρ} {b fz sz : Nat} {t : TypeId} {x y : Operand} {k : IntKind} {i : Int} {ti ei : TI} {et : TypeId} (h : (at' l i).bind kk = some r) (hn : ∀ a, at' l i = some a → kk a = some r → RunL c ops Q rest ⟨(d, .ptr b (i.toNat * sz)) :: T, H, M⟩)
    (ht : tget c.U t = some ti := by exact rfl) (htd : ti.desc = .slice et := by exact rfl) (he : tget c.U et = some ei := by exact rfl) (hsz : ei.size = sz := by exact rfl) (hx : opv T x = some (.sl b 0 l.length) := by exact rfl) (hb : hget H b = some (.row te sz fz (F e l)) := by exact rfl) (hy : opv T y = some (.pl (.int k i)) := by exact rfl) (hdo : dstOk c.N (some d) = true := by exact rfl) : RunL c ops Q (⟨some d, .indexAddr t x y, ty, pos, af, none⟩ :: rest) ⟨T, H, M⟩ := by
  obtain ⟨a, ha, h⟩ := bind_some h;obtain ⟨h0, hlt, hg⟩ := at'_some ha
  have hi : ((i.toNat : Nat) : Int) = i := Int.toNat_of_nonneg h0
  rw [← hi] at hy
  subst hsz
  exact RunL_q (s := ⟨T, H, M⟩) (q_indexAddr_sl0 ht htd he hx hy (by omega)) rfl hdo (hn a ha h)
theorem l_ldra {te : TypeId} {α : Type} {l : List α} {e : α → List AV} {a : α} {b fz sz : Nat} {i : Int} {t : TypeId} {x : Operand} {ti : TI} (ha : at' l i = some a) (hnext : RunL c ops Q rest ⟨(d, .agg (e a)) :: T, H, M⟩) (ht : tget c.U t = some ti := by exact rfl) (hag : aggD ti.desc = true := by exact rfl) (hx : opv T x = some (.ptr b (i.toNat * sz)) := by exact rfl) (hb : hget H b = some (.row te sz fz (F e l)) := by exact rfl) (hsz : ti.size = sz := by exact rfl) (hz : ∀ a, (e a).length = sz := by exact fun _ => rfl) (hdo : dstOk c.N (some d) = true := by exact rfl) : RunL c ops Q (⟨some d, .load t x, ty, pos, af, none⟩ :: rest) ⟨T, H, M⟩ :=
  RL_load_agg ht hag hx (show memAt H (.ptr b (i.toNat * sz)) = some ((F e l).drop (i.toNat * sz)) by simp only [memAt, hb]) (by rw [hsz]; exact F_take hz ha) (by rw [hsz]; exact hz a) hdo hnext
theorem l_lit {α : Type} {e : α → List AV} (l : List α) {t : TypeId} {n : Nat} {parts : Array (Nat × Operand)} {axs : List AV} {ti ei : TI} {et k : Nat} (hnext : RunL c ops Q rest ⟨(d, .sl (nm (some d)) 0 l.length) :: T, (nm (some d), .row et k 0 (F e l)) :: H, M⟩) (ht : tget c.U t = some ti := by exact rfl) (htd : ti.desc = .slice et := by exact rfl) (he : tget c.U et = some ei := by exact rfl) (hk : ei.size = k := by exact rfl) (hk0 : Nat.blt 0 k = true := by exact rfl) (hzs : ei.zero.cells.size = k := by exact rfl) (hparts : seqB 0 parts.toList = true := by exact rfl) (hn : parts.toList.length = n := by exact rfl) (hn0 : Nat.blt 0 n = true := by exact rfl) (hx : opvL T (parts.toList.map (·.2)) = some axs := by exact rfl) (hfit : fitAll k axs = true := by exact rfl) (hcs : cellsL axs = F e l := by exact rfl) (hl : l.length = n := by exact rfl) (hlim : Nat.ble (n * k) (2 ^ 24) = true := by exact rfl) (hb : hget H (nm (some d)) = none := by exact rfl) (hdo : dstOk c.N (some d) = true := by exact rfl) : RunL c ops Q (⟨some d, .buildSlice t n parts, ty, pos, af, none⟩ :: rest) ⟨T, H, M⟩ :=
  RL_buildSliceN ht htd he hk hk0 hzs hparts hn hn0 hx hfit hcs hlim hb hdo (by rw [← hl]; exact hnext)
theorem l_appf {α ρ : Type} {e : α → List AV} {kk : List α → Option ρ} {r : ρ} {l m : List α} {sz b k : Nat} {t : TypeId} {x y : Operand} {ti ei : TI} {et : TypeId} (h : (app sz l m).bind kk = some r) (hn : ∀ v, app sz l m = some v → kk v = some r → RunL c ops Q rest ⟨(d, .sl b 0 v.length) :: killT b T, (b, .row et k 0 (F e v)) :: killH b H, b :: M⟩)  (ht : tget c.U t = some ti := by exact rfl) (htd : ti.desc = .slice et := by exact rfl) (he : tget c.U et = some ei := by exact rfl) (hk : ei.size = k := by exact rfl) (hzs : ei.zero.cells.size = k := by exact rfl) (hbb : ei.bytes = sz := by exact rfl) (hbp : Nat.blt 0 sz = true := by exact rfl) (hx : opv T x = some (.sl b 0 l.length) := by exact rfl) (hb : hget H b = some (.row et k 0 (F e l)) := by exact rfl) (hy : opv T y = some (.vs m.length (F e m)) := by exact rfl) (hz : ∀ a, (e a).length = k := by exact fun _ => rfl) (hdo : dstOk c.N (some d) = true := by exact rfl) : RunL c ops Q (⟨some d, .call { callee := .builtin .append, args := #[x, y], argTypes := #[t, t] }, ty, pos, af, none⟩ :: rest) ⟨T, H, M⟩ := by
  obtain ⟨v, hv, h⟩ := bind_some h
  have h2 := hn v hv h
  obtain ⟨hl, rfl⟩ := app_some hv
  subst hbb
  have hbp : 0 < ei.bytes := by simpa [Nat.blt_eq] using hbp
  rw [List.length_append, F_app hz] at h2
  exact RL_append ht htd he hk hzs hbp hx hb (by rw [F_length hz]; omega) (Nat.zero_le _) hy rfl (F_length hz m) hl hdo  h2
theorem l_appo {te' : TypeId} {α ρ : Type} {e : α → List AV} {kk : List α → Option ρ} {r : ρ} {l m : List α} {sz b b' k fz' : Nat} {t : TypeId} {x y : Operand} {ti ei : TI} {et : TypeId} (h : (app sz l m).bind kk = some r) (hn : ∀ v, app sz l m = some v → kk v = some r → RunL c ops Q rest ⟨(d, .sl b 0 v.length) :: killT b T, (b, .row et k 0 (F e v)) :: killH b H, b :: M⟩)  (ht : tget c.U t = some ti := by exact rfl) (htd : ti.desc = .slice et := by exact rfl) (he : tget c.U et = some ei := by exact rfl) (hk : ei.size = k := by exact rfl) (hzs : ei.zero.cells.size = k := by exact rfl) (hbb : ei.bytes = sz := by exact rfl) (hbp : Nat.blt 0 sz = true := by exact rfl) (hx : opv T x = some (.sl b 0 l.length) := by exact rfl) (hb : hget H b = some (.row et k 0 (F e l)) := by exact rfl) (hy : opv T y = some (.sl b' 0 m.length) := by exact rfl) (hb' : hget H b' = some (.row te' k fz' (F e m)) := by exact rfl) (hz : ∀ a, (e a).length = k := by exact fun _ => rfl) (hdo : dstOk c.N (some d) = true := by exact rfl) : RunL c ops Q (⟨some d, .call { callee := .builtin .append, args := #[x, y], argTypes := #[t, t] }, ty, pos, af, none⟩ :: rest) ⟨T, H, M⟩ := by
  obtain ⟨v, hv, h⟩ := bind_some h
  have h2 := hn v hv h
  obtain ⟨hl, rfl⟩ := app_some hv
  subst hbb
  have hbp : 0 < ei.bytes := by simpa [Nat.blt_eq] using hbp
  rw [List.length_append, F_app hz] at h2
  exact RL_append ht htd he hk hzs hbp hx hb (by rw [F_length hz]; omega) (Nat.zero_le _) hy (show srcAt H k (.sl b' 0 m.length) = some (m.length, F e m) by simp only [srcAt, hb', List.drop_zero]; rw [List.take_of_length_le (by rw [F_length hz]; omega)]) (F_length hz m) hl hdo  h2
theorem l_apps {ρ : Type} {kk : Str → Option ρ} {r : ρ} {l m : Str} {sz b : Nat} {t t2 : TypeId} {x y : Operand} {ti ti2 ei : TI} {et : TypeId} (h : (app sz l m).bind kk = some r) (hn : ∀ v, app sz l m = some v → kk v = some r → RunL c ops Q rest ⟨(d, .sl b 0 v.length) :: killT b T, (b, .row et 1 0 (F cU v)) :: killH b H, b :: M⟩)  (ht : tget c.U t = some ti := by exact rfl) (htd : ti.desc = .slice et := by exact rfl) (ht2 : tget c.U t2 = some ti2 := by exact rfl) (ht2d : ti2.desc = .string := by exact rfl) (he : tget c.U et = some ei := by exact rfl) (hk : ei.size = 1 := by exact rfl) (hzs : ei.zero.cells.size = 1 := by exact rfl) (hbb : ei.bytes = sz := by exact rfl) (hbp : Nat.blt 0 sz = true := by exact rfl) (hx : opv T x = some (.sl b 0 l.length) := by exact rfl) (hb : hget H b = some (.row et 1 0 (F cU l)) := by exact rfl) (hy : opv T y = some (S m) := by exact rfl) (hdo : dstOk c.N (some d) = true := by exact rfl) : RunL c ops Q (⟨some d, .call { callee := .builtin .append, args := #[x, y], argTypes := #[t, t2] }, ty, pos, af, none⟩ :: rest) ⟨T, H, M⟩ := by
  obtain ⟨v, hv, h⟩ := bind_some h
  have h2 := hn v hv h
  obtain ⟨hl, rfl⟩ := app_some hv
  subst hbb
  have hbp : 0 < ei.bytes := by simpa [Nat.blt_eq] using hbp
  have e1 : ∀ q : Str, F cU q = q.map fun u => AV.pl (.int .u8 (u.toNat : Int)) := fun q => by
    induction q with
    | nil => rfl
    | cons a v ih => rw [List.map_cons, ← ih]; rfl
  have e2 : putT (killT b T) (some d) (.sl b 0 (l.length + (⟨m.toArray⟩ : ByteArray).size)) = (d, .sl b 0 (l ++ m).length) :: killT b T := by rw [List.length_append]; rfl
  have e3 : ((F cU l).drop 0).take (l.length * 1) ++ ((⟨m.toArray⟩ : ByteArray).data.toList.map fun u => AV.pl (.int .u8 (u.toNat : Int))) = F cU (l ++ m) := by
    rw [e1, e1, List.drop_zero, List.take_of_length_le (by simp), List.map_append]
  have hE := e_appendS (c := c) (s := ⟨T, H, M⟩) (d := some d) (ty := ty) (pos := pos) (af := af) (g := none) (n := l.length) ht htd ht2 ht2d he hk hzs hbp hx hb (by rw [e1]; simp) (Nat.zero_le _) hy hl hdo
  rw [e2, e3] at hE
  exact RunL_e (s := ⟨T, H, M⟩) hE rfl h2
theorem l_nat {r : AV} {cl : Call} {k : FuncId} {first cap es args : List AV} {P : Program} (hs : NSpec P k args r) (hnext : RunL c ops Q rest ⟨(d, r) :: T, H, M⟩) (hP : c.P = P := by exact rfl) (hk : calleeOf T cl.callee = some (k, first, cap) := by exact rfl) (ha : opvL T cl.args.toList = some es := by exact rfl) (hargs : first ++ es ++ cap = args := by exact rfl) (hdo : dstOk c.N (some d) = true := by exact rfl) : RunL c ops Q (⟨some d, .call cl, ty, pos, af, none⟩ :: rest) ⟨T, H, M⟩ := by
  subst hP hargs
  exact RunL_q (s := ⟨T, H, M⟩) (q_native hs hk ha) rfl hdo hnext
theorem l_callF {α ρ : Type} {P : Program} {g : Option α} {kk : α → Option ρ} {r : ρ} {E : α → AV} {cl : Call} {k : FuncId} {cap es args : List AV} (hc : AV.closedL cap = true ∧ AV.onlyL [] cap = true) (h : g.bind kk = some r) (hs : ∀ v, g = some v → XSpec P k args [] (E v) [] []) (hn : ∀ v, g = some v → kk v = some r → RunL c ops Q rest ⟨(d, E v) :: T, H, M⟩)
    (hP : c.P = P := by exact rfl) (hk : calleeOf T cl.callee = some (k, [], cap) := by exact rfl) (ha : opvL T cl.args.toList = some es := by exact rfl) (hargs : [] ++ es ++ cap = args := by exact rfl) (hcl : AV.closedL es = true := by exact rfl) (hdo : dstOk c.N (some d) = true := by exact rfl) : RunL c ops Q (⟨some d, .call cl, ty, pos, af, none⟩ :: rest) ⟨T, H, M⟩ := by
  obtain ⟨v, hv, h⟩ := bind_some h
  subst hargs
  exact RL_pcall (hs v hv).p hP hk ha rfl (by rw [List.nil_append]; exact closedL_app hcl hc.1) hdo (hn v hv h)
theorem l_quoC {t t' : TypeId} {x y : Operand} {k : IntKind} {m n : Int} (hnext : RunL c ops Q rest ⟨(d, .pl (.int k (k.wrap (m.tdiv n)))) :: T, H, M⟩) (hx : opv T x = some (.pl (.int k m)) := by exact rfl) (hy : opv T y = some (.pl (.int k n)) := by exact rfl) (hn : (n == 0) = false := by exact rfl) (hdo : dstOk c.N (some d) = true := by exact rfl) : RunL c ops Q (⟨some d, .binOp .quo t x y t', ty, pos, af, none⟩ :: rest) ⟨T, H, M⟩ := RunL_q (s := ⟨T, H, M⟩) (q_quo hx hy hn) rfl hdo hnext
theorem l_remC {t t' : TypeId} {x y : Operand} {k : IntKind} {m n : Int} (hnext : RunL c ops Q rest ⟨(d, .pl (.int k (m.tmod n))) :: T, H, M⟩) (hx : opv T x = some (.pl (.int k m)) := by exact rfl) (hy : opv T y = some (.pl (.int k n)) := by exact rfl) (hn : (n == 0) = false := by exact rfl) (hdo : dstOk c.N (some d) = true := by exact rfl) : RunL c ops Q (⟨some d, .binOp .rem t x y t', ty, pos, af, none⟩ :: rest) ⟨T, H, M⟩ := RunL_q (s := ⟨T, H, M⟩) (q_rem hx hy hn) rfl hdo hnext
theorem l_range {t : TypeId} {x : Operand} {l : List UInt8} {ti : TI} (hnext : RunL c ops Q rest ⟨(d, .it (nm (some d))) :: T, (nm (some d), .siter ⟨l.toArray⟩ 0) :: H, M⟩) (ht : tget c.U t = some ti := by exact rfl) (htd : ti.desc = .string := by exact rfl) (hx : opv T x = some (S l) := by exact rfl) (hb : hget H (nm (some d)) = none := by exact rfl) (hdo : dstOk c.N (some d) = true := by exact rfl) : RunL c ops Q (⟨some d, .range t x, ty, pos, af, none⟩ :: rest) ⟨T, H, M⟩ := RunL_e (s := ⟨T, H, M⟩) (e_range ht htd hx hb hdo).e rfl hnext
theorem l_strb {src dst e : TypeId} {x : Operand} {l : List UInt8} {t1 t2 ei : TI} (hnext : RunL c ops Q rest ⟨(d, .sl (nm (some d)) 0 l.length) :: T, (nm (some d), .row e 1 0 (F cU l)) :: H, M⟩) (h1 : tget c.U src = some t1 := by exact rfl) (hd1 : t1.desc = .string := by exact rfl) (h2 : tget c.U dst = some t2 := by exact rfl) (hd2 : t2.desc = .slice e := by exact rfl) (he : tget c.U e = some ei := by exact rfl) (hek : ei.desc = .int .u8 := by exact rfl) (hx : opv T x = some (S l) := by exact rfl) (hb : hget H (nm (some d)) = none := by exact rfl) (hdo : dstOk c.N (some d) = true := by exact rfl) (hview : GTab.view e = true := by exact rfl) : RunL c ops Q (⟨some d, .convert src dst x, ty, pos, af, none⟩ :: rest) ⟨T, H, M⟩ := by
  rw [F_cU] at hnext
  exact RunL_e (s := ⟨T, H, M⟩) (e_strb h1 hd1 h2 hd2 he hek hx hb hdo hview).e rfl hnext
theorem l_ldr0 {te : TypeId} {α : Type} {l : List α} {e : α → List AV} {a : α} {b fz sz : Nat} {i : Int} {t : TypeId} {x : Operand} {ay : AV} {ti : TI} (ha : at' l i = some a) (hnext : RunL c ops Q rest ⟨(d, ay) :: T, H, M⟩) (ht : tget c.U t = some ti := by exact rfl) (hag : aggD ti.desc = false := by exact rfl) (hx : opv T x = some (.ptr b (i.toNat * sz)) := by exact rfl) (hb : hget H b = some (.row te sz fz (F e l)) := by exact rfl) (hz : ∀ a, (e a).length = sz := by exact fun _ => rfl) (hc : (e a)[0]? = some ay := by exact rfl) (hdo : dstOk c.N (some d) = true := by exact rfl) : RunL c ops Q (⟨some d, .load t x, ty, pos, af, none⟩ :: rest) ⟨T, H, M⟩ :=
  RL_load ht hag hx (show memAt H (.ptr b (i.toNat * sz)) = some ((F e l).drop (i.toNat * sz)) by simp only [memAt, hb]) (F_head (o := 0) hz ha hc) hdo hnext
theorem l_appq {te' : TypeId} {α ρ : Type} {e : α → List AV} {kk : List α → Option ρ} {r : ρ} {l m : List α} {sz b b' k fz' q n : Nat} {t : TypeId} {x y : Operand} {ti ei : TI} {et : TypeId} (h : (appp sz l m q n).bind kk = some r) (hn : ∀ v, kk v = some r → RunL c ops Q rest ⟨(d, .sl b 0 v.length) :: killT b T, (b, .row et k 0 (F e v)) :: killH b H, b :: M⟩)  (ht : tget c.U t = some ti := by exact rfl) (htd : ti.desc = .slice et := by exact rfl) (he : tget c.U et = some ei := by exact rfl) (hk : ei.size = k := by exact rfl) (hzs : ei.zero.cells.size = k := by exact rfl) (hbb : ei.bytes = sz := by exact rfl) (hbp : Nat.blt 0 sz = true := by exact rfl) (hx : opv T x = some (.sl b 0 l.length) := by exact rfl) (hb : hget H b = some (.row et k 0 (F e l)) := by exact rfl) (hy : opv T y = some (.sl b' (q * k) n) := by exact rfl) (hb' : hget H b' = some (.row te' k fz' (F e m)) := by exact rfl) (hz : ∀ a, (e a).length = k := by exact fun _ => rfl) (hdo : dstOk c.N (some d) = true := by exact rfl) : RunL c ops Q (⟨some d, .call { callee := .builtin .append, args := #[x, y], argTypes := #[t, t] }, ty, pos, af, none⟩ :: rest) ⟨T, H, M⟩ := by
  obtain ⟨v, hv, h⟩ := bind_some h
  have h2 := hn v h
  obtain ⟨p, hp, hv⟩ := bind_some hv;obtain ⟨hp1, hp2, hp3⟩ := prt_some hp;obtain ⟨hl, rfl⟩ := app_some hv
  subst hbb
  have hbp : 0 < ei.bytes := by simpa [Nat.blt_eq] using hbp
  rw [List.length_append, F_app hz, hp3] at h2
  rw [hp3] at hl
  exact RL_append ht htd he hk hzs hbp hx hb (by rw [F_length hz]; omega) (Nat.zero_le _) hy (show srcAt H k (.sl b' (q * k) n) = some (n, F e p) by simp only [srcAt, hb']; rw [hp2, F_sub hz]) (by rw [F_length hz, hp3]) hl hdo  h2
theorem l_pnil {op : BinOp} {t t' : TypeId} {x : Operand} {cs : List AV} {z r : Bool} {ti : TI} {et : TypeId} (hnext : RunL c ops Q rest ⟨(d, B r) :: T, H, M⟩) (ht : tget c.U t = some ti := by exact rfl) (htd : ti.desc = .pointer et := by exact rfl) (hx : opv T x = some (.optr z cs) := by exact rfl) (hop : (op = .eql ∧ r = z) ∨ (op = .neq ∧ r = !z) := by first | exact Or.inl ⟨rfl, rfl⟩ | exact Or.inr ⟨rfl, rfl⟩) (hdo : dstOk c.N (some d) = true := by exact rfl) : RunL c ops Q (⟨some d, .binOp op t x (.const (.pointer none)) t', ty, pos, af, none⟩ :: rest) ⟨T, H, M⟩ := RunL_q (s := ⟨T, H, M⟩) (q_ptrnil ht htd hx (.inl ⟨_, rfl⟩) hop) rfl hdo hnext
theorem l_pnilp {op : BinOp} {t t' : TypeId} {x : Operand} {b o : Nat} {z r : Bool} {ti : TI} {et : TypeId} (hnext : RunL c ops Q rest ⟨(d, B r) :: T, H, M⟩) (ht : tget c.U t = some ti := by exact rfl) (htd : ti.desc = .pointer et := by exact rfl) (hx : opv T x = some (.nptr z b o) := by exact rfl) (hop : (op = .eql ∧ r = z) ∨ (op = .neq ∧ r = !z) := by first | exact Or.inl ⟨rfl, rfl⟩ | exact Or.inr ⟨rfl, rfl⟩) (hdo : dstOk c.N (some d) = true := by exact rfl) : RunL c ops Q (⟨some d, .binOp op t x (.const (.pointer none)) t', ty, pos, af, none⟩ :: rest) ⟨T, H, M⟩ := RunL_q (s := ⟨T, H, M⟩) (q_ptrnil ht htd hx (.inr (.inl ⟨_, _, rfl⟩)) hop) rfl hdo hnext
theorem l_deref {α ρ : Type} {p : Option α} {e : α → List AV} {kk : α → Option ρ} {r : ρ} {x : Operand} (h : p.bind kk = some r) (hn : ∀ v, p = some v → kk v = some r → RunL c ops Q rest ⟨(d, .vptr (e v)) :: T, H, M⟩) (hx : opv T x = some (oP e p) := by exact rfl) (hdo : dstOk c.N (some d) = true := by exact rfl) : RunL c ops Q (⟨some d, .nilCheck x, ty, pos, af, none⟩ :: rest) ⟨T, H, M⟩ := by
  obtain ⟨v, hv, h⟩ := bind_some h
  have hx' : opv T x = some (.vptr (e v)) := by rw [hx, hv]; rfl
  exact RunL_q (s := ⟨T, H, M⟩) (q_nilCheck hx' rfl) rfl hdo (hn v hv h)
theorem l_shrC {t t' : TypeId} {x y : Operand} {k k' : IntKind} {m n r : Int} (hnext : RunL c ops Q rest ⟨(d, .pl (.int k r)) :: T, H, M⟩) (hx : opv T x = some (.pl (.int k m)) := by exact rfl) (hy : opv T y = some (.pl (.int k' n)) := by exact rfl) (hr : W.shr k.bits m n = some r := by exact rfl) (hdo : dstOk c.N (some d) = true := by exact rfl) : RunL c ops Q (⟨some d, .binOp .shr t x y t', ty, pos, af, none⟩ :: rest) ⟨T, H, M⟩ := RunL_q (s := ⟨T, H, M⟩) (q_shr hx hy hr) rfl hdo hnext
theorem l_bits {op : BinOp} {t t' : TypeId} {x y : Operand} {k : IntKind} {m n r : Int} (hnext : RunL c ops Q rest ⟨(d, .pl (.int k (k.wrap r))) :: T, H, M⟩) (hx : opv T x = some (.pl (.int k m)) := by exact rfl) (hy : opv T y = some (.pl (.int k n)) := by exact rfl) (hr : bitsOf op k.bits m n = some r := by exact rfl) (hdo : dstOk c.N (some d) = true := by exact rfl) : RunL c ops Q (⟨some d, .binOp op t x y t', ty, pos, af, none⟩ :: rest) ⟨T, H, M⟩ := RunL_q (s := ⟨T, H, M⟩) (q_bits hx hy hr) rfl hdo hnext
theorem l_sub0 {te : TypeId} {ρ : Type} {kk : Unit → Option ρ} {r : ρ} {t : TypeId} {x : Operand} {lo hi : Option Operand} {b n k fz : Nat} {i j : Int} {cs : List AV} {ti ei : TI} {et : TypeId} (h : (rng (n : Int) i j).bind kk = some r) (hn : kk () = some r → RunL c ops Q rest ⟨(d, .sl b (i.toNat * k) (j.toNat - i.toNat)) :: T, H, M⟩) (ht : tget c.U t = some ti := by exact rfl) (htd : ti.desc = .slice et := by exact rfl) (he : tget c.U et = some ei := by exact rfl) (hx : opv T x = some (.sl b 0 n) := by exact rfl) (hb : hget H b = some (.row te k fz cs) := by exact rfl) (hk : ei.size = k := by exact rfl) (hlo : bnd T 0 lo = some i := by exact rfl) (hhi : bnd T (n : Int) hi = some j := by exact rfl) (hdo : dstOk c.N (some d) = true := by exact rfl) : RunL c ops Q (⟨some d, .slice t x lo hi none, ty, pos, af, none⟩ :: rest) ⟨T, H, M⟩ := by
  obtain ⟨u, hv, h⟩ := bind_some h;obtain ⟨h1, h2, h3⟩ := rng_some hv;exact RunL_q (s := ⟨T, H, M⟩) (q_slice_part ht htd he hx hb hk (l := i.toNat) (h := j.toNat) (by rw [hlo]; congr 1; omega) (by rw [hhi]; congr 1; omega) (by omega) (by omega) (by rw [Nat.zero_add])) rfl hdo (hn h)
theorem l_subp {te : TypeId} {ρ : Type} {kk : Unit → Option ρ} {r : ρ} {t : TypeId} {x : Operand} {hi : Option Operand} {b n k fz : Nat} {j : Int} {cs : List AV} {ti ei : TI} {et : TypeId} (h : (rng (n : Int) 0 j).bind kk = some r) (hn : kk () = some r → RunL c ops Q rest ⟨(d, .sl b 0 j.toNat) :: T, H, M⟩) (ht : tget c.U t = some ti := by exact rfl) (htd : ti.desc = .slice et := by exact rfl) (he : tget c.U et = some ei := by exact rfl) (hx : opv T x = some (.sl b 0 n) := by exact rfl) (hb : hget H b = some (.row te k fz cs) := by exact rfl) (hk : ei.size = k := by exact rfl) (hhi : bnd T (n : Int) hi = some j := by exact rfl) (hdo : dstOk c.N (some d) = true := by exact rfl) : RunL c ops Q (⟨some d, .slice t x none hi none, ty, pos, af, none⟩ :: rest) ⟨T, H, M⟩ := by
  obtain ⟨u, hv, h⟩ := bind_some h;obtain ⟨h1, h2, h3⟩ := rng_some hv;exact RunL_q (s := ⟨T, H, M⟩) (q_slice_part ht htd he hx hb hk (l := 0) (h := j.toNat) rfl (by rw [hhi]; congr 1; omega) (by omega) (by omega) (by rw [Nat.zero_mul])) rfl hdo (hn h)
theorem l_put {te : TypeId} {α ρ : Type} {l : List α} {e : α → List AV} {a a' : α} {kk : List α → Option ρ} {r : ρ} {t : TypeId} {x y : Operand} {ay : AV} {es : List AV} {b o sz : Nat} {i : Int} {ti : TI} (ha : at' l i = some a) (h : (put l i a').bind kk = some r) (hn : ∀ v, v.length = l.length → kk v = some r → RunL c ops Q rest ⟨T, hset H b (.row te sz 0 (F e v)), M⟩)  (ht : tget c.U t = some ti := by exact rfl) (hx : opv T x = some (.ptr b (i.toNat * sz + o)) := by exact rfl) (hy : opv T y = some ay := by exact rfl) (hes : cellsA ay = es := by exact rfl) (hf : fit ay = true := by exact rfl) (hl : es.length = ti.size := by exact rfl) (hcl : AV.closedL es = true := by exact rfl) (hb : hget H b = some (.row te sz 0 (F e l)) := by exact rfl) (hz : ∀ a, (e a).length = sz := by exact fun _ => rfl) (hpos : Nat.blt 0 ti.size = true := by exact rfl) (hin : Nat.ble (o + es.length) sz = true := by exact rfl) (hu : updL (e a) o es = e a' := by exact rfl) : RunL c ops Q (⟨none, .store t x y, ty, pos, af, none⟩ :: rest) ⟨T, H, M⟩ := by
  obtain ⟨v, hv, h⟩ := bind_some h;obtain ⟨h0, hlt, rfl⟩ := put_some hv
  have hin := Nat.le_of_ble_eq_true hin
  have hpos : 0 < ti.size := by simpa [Nat.blt_eq] using hpos
  have h2 := hn _ (by simp) h
  rw [← F_put hz ha hin hu] at h2
  have hi : i.toNat < l.length := by omega
  have hle : i.toNat * sz + sz ≤ l.length * sz := by rw [← Nat.succ_mul]; exact Nat.mul_le_mul_right _ hi
  exact RunL_e (s := ⟨T, H, M⟩) (e_store_row ht hx hy hes hf hl hcl hb (Nat.zero_le _) (by rw [F_length hz]; omega) hpos rfl) rfl h2
theorem l_put0 {te : TypeId} {α ρ : Type} {l : List α} {e : α → List AV} {a a' : α} {kk : List α → Option ρ} {r : ρ} {t : TypeId} {x y : Operand} {ay : AV} {es : List AV} {b sz : Nat} {i : Int} {ti : TI} (ha : at' l i = some a) (h : (put l i a').bind kk = some r) (hn : ∀ v, v.length = l.length → kk v = some r → RunL c ops Q rest ⟨T, hset H b (.row te sz 0 (F e v)), M⟩)  (ht : tget c.U t = some ti := by exact rfl) (hx : opv T x = some (.ptr b (i.toNat * sz)) := by exact rfl) (hy : opv T y = some ay := by exact rfl) (hes : cellsA ay = es := by exact rfl) (hf : fit ay = true := by exact rfl) (hl : es.length = ti.size := by exact rfl) (hcl : AV.closedL es = true := by exact rfl) (hb : hget H b = some (.row te sz 0 (F e l)) := by exact rfl) (hz : ∀ a, (e a).length = sz := by exact fun _ => rfl) (hpos : Nat.blt 0 ti.size = true := by exact rfl) (hin : Nat.ble es.length sz = true := by exact rfl) (hu : updL (e a) 0 es = e a' := by exact rfl) : RunL c ops Q (⟨none, .store t x y, ty, pos, af, none⟩ :: rest) ⟨T, H, M⟩ :=
  l_put (o := 0) ha h hn  ht hx hy hes hf hl hcl hb hz hpos (by rw [Nat.zero_add]; exact hin) hu
theorem l_make {α ρ : Type} {e : α → List AV} {z : α} {kk : List α → Option ρ} {r : ρ} {t : TypeId} {x y : Operand} {kx ky : IntKind} {l : Int} {sz by_ : Nat} {ti ei : TI} {et : TypeId} (h : (W.mk by_ l z).bind kk = some r) (hn : ∀ v, v.length = l.toNat → kk v = some r → RunL c ops Q rest ⟨(d, .sl (nm (some d)) 0 v.length) :: T, (nm (some d), .row et sz 0 (F e v)) :: H, M⟩) (ht : tget c.U t = some ti := by exact rfl) (htd : ti.desc = .slice et := by exact rfl) (he : tget c.U et = some ei := by exact rfl) (hk : ei.size = sz := by exact rfl) (hby : ei.bytes = by_ := by exact rfl) (hx : opv T x = some (.pl (.int kx l)) := by exact rfl) (hy : opv T y = some (.pl (.int ky l)) := by exact rfl) (hz : ∀ a, (e a).length = sz := by exact fun _ => rfl) (hcs2 : cellsA (ofVal ei.zero) = e z := by exact rfl) (hf : fit (ofVal ei.zero) = true := by exact rfl) (hcl : AV.closedL (e z) = true := by exact rfl) (hpos : Nat.blt 0 sz = true := by exact rfl) (hb : hget H (nm (some d)) = none := by exact rfl) (hdo : dstOk c.N (some d) = true := by exact rfl) : RunL c ops Q (⟨some d, .makeSlice t x y, ty, pos, af, none⟩ :: rest) ⟨T, H, M⟩ := by
  subst hby
  obtain ⟨v, hv, h⟩ := bind_some h;obtain ⟨h0, h1, h2, rfl⟩ := mk_some hv
  have hpos : 0 < sz := by simpa [Nat.blt_eq] using hpos
  have h3 := hn _ (by simp) h
  rw [← F_rep, List.length_replicate] at h3
  have hop := e_makeSlice (s := ⟨T, H, M⟩) (d := some d) (ty := ty) (pos := pos) (af := af) (g := none) ht htd he hk hpos hx hy hcs2 hf hcl (hz z) h0 (Int.le_refl _) h1 h2 hb hdo
  exact RunL_e (s := ⟨T, H, M⟩) hop.e rfl h3
theorem l_bitsU {op : BinOp} {t t' : TypeId} {x y : Operand} {m n r : Int} (hnext : RunL c ops Q rest ⟨(d, U (u8 r)) :: T, H, M⟩) (hx : opv T x = some (.pl (.int .u8 m)) := by exact rfl) (hy : opv T y = some (.pl (.int .u8 n)) := by exact rfl) (hr : bitsOf op 8 m n = some r := by exact rfl) (hdo : dstOk c.N (some d) = true := by exact rfl) : RunL c ops Q (⟨some d, .binOp op t x y t', ty, pos, af, none⟩ :: rest) ⟨T, H, M⟩ := l_bits (k := .u8) (by rw [wrap_u8_eq]; exact hnext) hx hy hr hdo
theorem l_shrU {t t' : TypeId} {x y : Operand} {k' : IntKind} {n : Int} (a : UInt8) (q : Nat) (hnext : RunL c ops Q rest ⟨(d, U (u8 ((a.toNat : Int).fdiv (2 ^ q)))) :: T, H, M⟩) (hx : opv T x = some (U a) := by exact rfl) (hy : opv T y = some (.pl (.int k' n)) := by exact rfl) (hr : W.shr 8 (a.toNat : Int) n = some ((a.toNat : Int).fdiv (2 ^ q)) := by exact rfl) (hdo : dstOk c.N (some d) = true := by exact rfl) : RunL c ops Q (⟨some d, .binOp .shr t x y t', ty, pos, af, none⟩ :: rest) ⟨T, H, M⟩ := l_shrC (k := .u8) (by rw [shr_u8_eq]; exact hnext) hx hy hr hdo
theorem l_atg {α ρ : Type} {l : List α} {e : α → List AV} {ev : α → List Value} {kk : α → Option ρ} {r : ρ} (j : Nat) {b n k : Nat} {t : TypeId} {x y : Operand} {kx : IntKind} {i : Int} {ti ei : TI} {et : TypeId} (h : (at' l i).bind kk = some r) (hn : ∀ a, at' l i = some a → kk a = some r → RunL c ops Q rest ⟨(d, .vptr (e a)) :: T, H, M⟩)
    (ht : tget c.U t = some ti := by exact rfl) (htd : ti.desc = .array n et := by exact rfl) (he : tget c.U et = some ei := by exact rfl) (hk : ei.size = k := by exact rfl) (hx : opv T x = some (.pl (.pointer (some ⟨b, 0, none⟩))) := by exact rfl) (hy : opv T y = some (.pl (.int kx i)) := by exact rfl) (htab : GTab.tab[j]? = some (b, l.flatMap ev) := by exact rfl) (hln : l.length = n := by exact rfl) (hz : ∀ a, (ev a).length = k := by exact fun _ => rfl) (hev : ∀ a, (ev a).map AV.pl = e a := by exact fun _ => rfl) (hdo : dstOk c.N (some d) = true := by exact rfl) : RunL c ops Q (⟨some d, .indexAddr t x y, ty, pos, af, none⟩ :: rest) ⟨T, H, M⟩ := by
  obtain ⟨a, ha, h⟩ := bind_some h;obtain ⟨h0, hlt, hg⟩ := at'_some ha
  have hi : i.toNat < l.length := by omega
  have hla : l[i.toNat] = a := by rw [List.getElem?_eq_getElem hi] at hg; exact Option.some.inj hg
  exact RunL_q (s := ⟨T, H, M⟩) (s_indexGlob (ds := e a) ht htd he hk hx hy htab (by omega) (fun m z hm => by
    rw [← hev a, List.getElem?_map, Option.map_eq_some_iff] at hm
    obtain ⟨v, hv, rfl⟩ := hm;refine ⟨v, ?_, rfl⟩
    rw [flat_at hz l i.toNat m hi (by rw [← hz a]; exact (List.getElem?_eq_some_iff.1 hv).1), hla]; exact hv)).later rfl hdo (hn a ha h)
theorem l_sub3 {α ρ : Type} {kk : List α → Option ρ} {r : ρ} {t : TypeId} {x y z : Operand} {lo : Option Operand} {l : List α} {e : α → List AV} {i j q : Int} {ky kz : IntKind} {ti ei : TI} {et : TypeId} (h : (W.sub3 l i j q).bind kk = some r) (hn : ∀ v, W.sub3 l i j q = some v → kk v = some r → RunL c ops Q rest ⟨(d, .vs v.length (F e v)) :: T, H, M⟩) (ht : tget c.U t = some ti := by exact rfl) (htd : ti.desc = .slice et := by exact rfl) (he : tget c.U et = some ei := by exact rfl) (hx : opv T x = some (.vs l.length (F e l)) := by exact rfl) (hlo : bnd T 0 lo = some i := by exact rfl) (hy : opv T y = some (.pl (.int ky j)) := by exact rfl) (hz0 : opv T z = some (.pl (.int kz q)) := by exact rfl) (hz : ∀ a, (e a).length = ei.size := by exact fun _ => rfl) (hdo : dstOk c.N (some d) = true := by exact rfl) : RunL c ops Q (⟨some d, .slice t x lo (some y) (some z), ty, pos, af, none⟩ :: rest) ⟨T, H, M⟩ := by
  obtain ⟨v, hv, h⟩ := bind_some h
  have h2 := hn v hv h
  obtain ⟨hq1, hq2, hs⟩ := W.sub3_some hv;obtain ⟨h0, h1, h3, rfl⟩ := sub'_some hs
  have hi' : ((i.toNat : Nat) : Int) = i := Int.toNat_of_nonneg h0
  have hj' : ((j.toNat : Nat) : Int) = j := Int.toNat_of_nonneg (by omega)
  have hq' : ((q.toNat : Nat) : Int) = q := Int.toNat_of_nonneg (by omega)
  rw [← hi'] at hlo
  rw [← hj'] at hy
  rw [← hq'] at hz0
  have hlen : ((l.drop i.toNat).take (j.toNat - i.toNat)).length = j.toNat - i.toNat := by simp; omega
  rw [hlen] at h2
  refine RunL_q (s := ⟨T, H, M⟩) (s_slice3_vs (l := i.toNat) (h := j.toNat) (m := q.toNat) ht htd he hx hlo hy hz0 (by omega) (by omega) (by omega) ?_).later rfl hdo h2;exact F_sub hz l _ _
theorem n_addw {t t' : TypeId} {x y : Operand} {k : IntKind} {m n : Int} (hnext : RunM c ops hot Q lq ⟨(d, .pl (.int k (k.wrap (m + n)))) :: T, H, M⟩) (hx : opv T x = some (.pl (.int k m)) := by exact rfl) (hy : opv T y = some (.pl (.int k n)) := by exact rfl) (hdo : dstOk c.N (some d) = true := by exact rfl) : RunN c ops hot Q i0 false ⟨some d, .binOp .add t x y t', ty, pos, af, none⟩ lq ⟨T, H, M⟩ := RN_int hx hy (fun w' => by simp [binOp, Op.intArith]) hdo hnext
theorem n_subw {t t' : TypeId} {x y : Operand} {k : IntKind} {m n : Int} (hnext : RunM c ops hot Q lq ⟨(d, .pl (.int k (k.wrap (m - n)))) :: T, H, M⟩) (hx : opv T x = some (.pl (.int k m)) := by exact rfl) (hy : opv T y = some (.pl (.int k n)) := by exact rfl) (hdo : dstOk c.N (some d) = true := by exact rfl) : RunN c ops hot Q i0 false ⟨some d, .binOp .sub t x y t', ty, pos, af, none⟩ lq ⟨T, H, M⟩ := RN_int hx hy (fun w' => by simp [binOp, Op.intArith]) hdo hnext
theorem n_mulw {t t' : TypeId} {x y : Operand} {k : IntKind} {m n : Int} (hnext : RunM c ops hot Q lq ⟨(d, .pl (.int k (k.wrap (m * n)))) :: T, H, M⟩) (hx : opv T x = some (.pl (.int k m)) := by exact rfl) (hy : opv T y = some (.pl (.int k n)) := by exact rfl) (hdo : dstOk c.N (some d) = true := by exact rfl) : RunN c ops hot Q i0 false ⟨some d, .binOp .mul t x y t', ty, pos, af, none⟩ lq ⟨T, H, M⟩ := RN_int hx hy (fun w' => by simp [binOp, Op.intArith]) hdo hnext
theorem n_call {α ρ : Type} {P : Program} {g : Option α} {kk : α → Option ρ} {r : ρ} {E : α → AV} {cl : Call} {k : FuncId} {first cap es args : List AV} (h : g.bind kk = some r) (hs : ∀ v, g = some v → XSpec P k args [] (E v) [] []) (hn : ∀ v, g = some v → kk v = some r → RunM c ops hot Q lq ⟨(d, E v) :: T, H, M⟩)
    (hP : c.P = P := by exact rfl) (hk : calleeOf T cl.callee = some (k, first, cap) := by exact rfl) (ha : opvL T cl.args.toList = some es := by exact rfl) (hargs : first ++ es ++ cap = args := by exact rfl) (hcl : AV.onlyL [] args = true := by first | exact rfl | (simp only [AV.closedL, AV.closed, AV.onlyL, AV.only, Bool.true_and, Bool.and_true]; first | exact And.left (by assumption) | exact And.right (by assumption))) (hdo : dstOk c.N (some d) = true := by exact rfl) : RunN c ops hot Q i0 true ⟨some d, .call cl, ty, pos, af, none⟩ lq ⟨T, H, M⟩ := by
  obtain ⟨v, hv, h⟩ := bind_some h;exact RN_pcall (hs v hv).p hP hk ha hargs hcl hdo (hn v hv h)
theorem n_callB {α ρ : Type} {P : Program} {g : Option α} {kk : α → Option ρ} {r : ρ} {E : α → AV} {cl : Call} {k : FuncId} {first cap es args : List AV} (h : g.bind kk = some r) (hs : ∀ v, g = some v → XSpec P k args [] (E v) [] []) (hn : ∀ v, g = some v → kk v = some r → RunM c ops hot Q lq ⟨(d, E v) :: T, H, M⟩)
    (hP : c.P = P := by exact rfl) (hk : calleeOf T cl.callee = some (k, first, cap) := by exact rfl) (ha : opvL T cl.args.toList = some es := by exact rfl) (hargs : AV.mapNL (brwW H) (first ++ es ++ cap) = args := by exact rfl) (hr : ∀ v, (E v).flat = true := by exact fun _ => rfl) (hdo : dstOk c.N (some d) = true := by exact rfl) : RunN c ops hot Q i0 true ⟨some d, .call cl, ty, pos, af, none⟩ lq ⟨T, H, M⟩ := by
  obtain ⟨v, hv, h⟩ := bind_some h
  subst hP
  exact RN_callB (hs v hv).p hk ha hargs (hr v) hdo (hn v hv h)
theorem n_callX {α ρ : Type} {P : Program} {g : Option α} {kk : α → Option ρ} {r : ρ} {E : α → AV} {Hf H1 H2 : List (Nat × AObj)} {H' : α → List (Nat × AObj)} {mv mv' : List Nat} {cl : Call} {k : FuncId} {first cap es args args0 : List AV} (ws : List (Nat × Nat)) (ns : List Nat) (h : g.bind kk = some r) (hs : ∀ v, g = some v → XSpec P k args Hf (E v) (H' v) mv)
    (hn : ∀ v, g = some v → kk v = some r → RunM c ops hot Q lq ⟨putT (kiT mv' T) (some d) ((E v).mapN (swL ws)), swH ws (H' v) ++ kiH mv' H2, mv' ++ M⟩) (hh : ns = [] ∨ mem i0 hot = true := by first | exact Or.inl rfl | exact Or.inr rfl)
    (hmv : mv.map (swp ws) = mv' := by exact rfl) (hP : c.P = P := by exact rfl) (hk : calleeOf T cl.callee = some (k, first, cap) := by exact rfl) (ha : opvL T cl.args.toList = some es := by exact rfl) (ha0 : first ++ es ++ cap = args0 := by exact rfl) (hargs : AV.mapNL (swL ws) args0 = args := by exact rfl) (hH1 : hpick ns H = H1 := by exact rfl) (hHf : swH ws H1 = Hf := by exact rfl)
    (hok : honly ns H1 = true := by exact rfl) (hon : AV.onlyL ns args0 = true := by exact rfl) (hH2 : hrest ns H = H2 := by exact rfl) (hap : ∀ v, hapart (swH ws (H' v)) H2 = true := by exact fun _ => rfl) (hdo : dstOk c.N (some d) = true := by exact rfl) (hw : nodupB (swN ws) = true := by exact rfl) : RunN c ops hot Q i0 true ⟨some d, .call cl, ty, pos, af, none⟩ lq ⟨T, H, M⟩ := by
  obtain ⟨v, hv, h⟩ := bind_some h
  subst hP hmv
  exact RN_callX ns hh ((hs v hv).sw ws hw hargs hHf) hk ha ha0 hH1 hok hon hH2 (hap v) hdo (hn v hv h)
theorem n_at {α ρ : Type} {l : List α} {e : α → List AV} {kk : α → Option ρ} {r : ρ} {t : TypeId} {x y : Operand} {k : IntKind} {i : Int} {ti ei : TI} {et : TypeId} (h : (at' l i).bind kk = some r) (hn : ∀ a, at' l i = some a → kk a = some r → RunM c ops hot Q lq ⟨(d, .vptr (e a)) :: T, H, M⟩)
    (ht : tget c.U t = some ti := by exact rfl) (htd : ti.desc = .slice et := by exact rfl) (he : tget c.U et = some ei := by exact rfl) (hx : opv T x = some (.vs l.length (F e l)) := by exact rfl) (hy : opv T y = some (.pl (.int k i)) := by exact rfl) (hz : ∀ a, (e a).length = ei.size := by exact fun _ => rfl) (hdo : dstOk c.N (some d) = true := by exact rfl) : RunN c ops hot Q i0 false ⟨some d, .indexAddr t x y, ty, pos, af, none⟩ lq ⟨T, H, M⟩ := by
  obtain ⟨a, ha, h⟩ := bind_some h;obtain ⟨h0, hlt, hg⟩ := at'_some ha
  have hi : i.toNat < l.length := by omega
  have hd : (F e l).drop (i.toNat * ei.size) = e a ++ F e (l.drop (i.toNat + 1)) := by
    have := flat_drop hz l i.toNat hi
    rw [List.getElem?_eq_getElem hi] at hg
    cases hg
    exact this
  exact RN_indexAddr_vsD ht htd he hx hy ⟨h0, hlt⟩ hd hdo fun a' w hs => hn a ha h a' w (hs.weak1 (Le_vptr _ _))
theorem n_lens {t : TypeId} {x : Operand} {l : List UInt8} {ti : TI} (hnext : RunM c ops hot Q lq ⟨(d, I (l.length : Int)) :: T, H, M⟩) (ht : tget c.U t = some ti := by exact rfl) (htd : ti.desc = .string := by exact rfl) (hx : opv T x = some (S l) := by exact rfl) (hdo : dstOk c.N (some d) = true := by exact rfl) : RunN c ops hot Q i0 false ⟨some d, .call { callee := .builtin .len, args := #[x], argTypes := #[t] }, ty, pos, af, none⟩ lq ⟨T, H, M⟩ := RN_len_str ht htd hx hdo hnext
theorem n_subs {ρ : Type} {kk : List UInt8 → Option ρ} {r : ρ} {t : TypeId} {x : Operand} {lo hi : Option Operand} {l : List UInt8} {i j : Int} {ti : TI} (h : (sub' l i j).bind kk = some r) (hn : ∀ v, sub' l i j = some v → kk v = some r → RunM c ops hot Q lq ⟨(d, S v) :: T, H, M⟩) (ht : tget c.U t = some ti := by exact rfl) (htd : ti.desc = .string := by exact rfl) (hx : opv T x = some (S l) := by exact rfl) (hlo : bnd T 0 lo = some i := by exact rfl) (hhi : bnd T (l.length : Int) hi = some j := by exact rfl) (hdo : dstOk c.N (some d) = true := by exact rfl) : RunN c ops hot Q i0 false ⟨some d, .slice t x lo hi none, ty, pos, af, none⟩ lq ⟨T, H, M⟩ := by
  obtain ⟨v, hv, h⟩ := bind_some h
  have h2 := hn v hv h
  obtain ⟨h0, h1, h3, rfl⟩ := sub'_some hv
  have hi' : ((i.toNat : Nat) : Int) = i := Int.toNat_of_nonneg h0
  have hj' : ((j.toNat : Nat) : Int) = j := Int.toNat_of_nonneg (by omega)
  rw [← hi'] at hlo
  rw [← hj'] at hhi
  have e : (ByteArray.mk l.toArray).extract i.toNat j.toNat = ⟨((l.drop i.toNat).take (j.toNat - i.toNat)).toArray⟩ := by apply ByteArray.ext; simp
  unfold S at h2
  rw [← e] at h2
  exact RunN_q (s := ⟨T, H, M⟩) (q_slice_str ht htd hx hlo hhi (by omega) (by show j.toNat ≤ l.length; omega)) rfl hdo h2
theorem n_lenn {t : TypeId} {x : Operand} {ti : TI} {et : TypeId} (hnext : RunM c ops hot Q lq ⟨(d, I 0) :: T, H, M⟩) (ht : tget c.U t = some ti := by exact rfl) (htd : ti.desc = .slice et := by exact rfl) (hx : opv T x = some (.pl (.slice none 0 0)) := by exact rfl) (hdo : dstOk c.N (some d) = true := by exact rfl) : RunN c ops hot Q i0 false ⟨some d, .call { callee := .builtin .len, args := #[x], argTypes := #[t] }, ty, pos, af, none⟩ lq ⟨T, H, M⟩ := RN_len (n := 0) ht htd hx rfl hdo hnext
theorem n_subf {α ρ : Type} {kk : List α → Option ρ} {r : ρ} {t : TypeId} {x : Operand} {lo hi : Option Operand} {l : List α} {e : α → List AV} {i j : Int} {ti ei : TI} {et : TypeId} (h : (sub' l i j).bind kk = some r) (hn : ∀ v, sub' l i j = some v → kk v = some r → RunM c ops hot Q lq ⟨(d, .vs v.length (F e v)) :: T, H, M⟩) (ht : tget c.U t = some ti := by exact rfl) (htd : ti.desc = .slice et := by exact rfl) (he : tget c.U et = some ei := by exact rfl) (hx : opv T x = some (.vs l.length (F e l)) := by exact rfl) (hlo : bnd T 0 lo = some i := by exact rfl) (hhi : bnd T (l.length : Int) hi = some j := by exact rfl) (hz : ∀ a, (e a).length = ei.size := by exact fun _ => rfl) (hdo : dstOk c.N (some d) = true := by exact rfl) : RunN c ops hot Q i0 false ⟨some d, .slice t x lo hi none, ty, pos, af, none⟩ lq ⟨T, H, M⟩ := by
  obtain ⟨v, hv, h⟩ := bind_some h
  have h2 := hn v hv h
  obtain ⟨h0, h1, h3, rfl⟩ := sub'_some hv
  have hi' : ((i.toNat : Nat) : Int) = i := Int.toNat_of_nonneg h0
  have hj' : ((j.toNat : Nat) : Int) = j := Int.toNat_of_nonneg (by omega)
  rw [← hi'] at hlo
  rw [← hj'] at hhi
  have el : ((l.drop i.toNat).take (j.toNat - i.toNat)).length = j.toNat - i.toNat := by rw [List.length_take, List.length_drop]; omega
  rw [el] at h2
  exact RN_slice_vs ht htd he hx hlo hhi (by omega) (by omega) (F_sub hz l _ _) hdo h2
theorem n_ato {te : TypeId} {α ρ : Type} {l : List α} {e : α → List AV} {kk : α → Option ρ} {r : ρ} {b fz sz : Nat} {t : TypeId} {x y : Operand} {k : IntKind} {i : Int} {ti ei : TI} {et : TypeId} (h : (at' l i).bind kk = some r) (hn : ∀ a, at' l i = some a → kk a = some r → RunM c ops hot Q lq ⟨(d, .ptr b (i.toNat * sz)) :: T, H, M⟩)
    (ht : tget c.U t = some ti := by exact rfl) (htd : ti.desc = .slice et := by exact rfl) (he : tget c.U et = some ei := by exact rfl) (hsz : ei.size = sz := by exact rfl) (hx : opv T x = some (.sl b 0 l.length) := by exact rfl) (hb : hget H b = some (.row te sz fz (F e l)) := by exact rfl) (hy : opv T y = some (.pl (.int k i)) := by exact rfl) (hdo : dstOk c.N (some d) = true := by exact rfl) : RunN c ops hot Q i0 false ⟨some d, .indexAddr t x y, ty, pos, af, none⟩ lq ⟨T, H, M⟩ := by
  obtain ⟨a, ha, h⟩ := bind_some h;obtain ⟨h0, hlt, hg⟩ := at'_some ha
  have hi : ((i.toNat : Nat) : Int) = i := Int.toNat_of_nonneg h0
  rw [← hi] at hy
  subst hsz
  exact RunN_q (s := ⟨T, H, M⟩) (q_indexAddr_sl0 ht htd he hx hy (by omega)) rfl hdo (hn a ha h)
theorem n_ldr {te : TypeId} {α : Type} {l : List α} {e : α → List AV} {a : α} {b fz sz o : Nat} {i : Int} {t : TypeId} {x : Operand} {ay : AV} {ti : TI} (ha : at' l i = some a) (hnext : RunM c ops hot Q lq ⟨(d, ay) :: T, H, M⟩) (ht : tget c.U t = some ti := by exact rfl) (hag : aggD ti.desc = false := by exact rfl) (hx : opv T x = some (.ptr b (i.toNat * sz + o)) := by exact rfl) (hb : hget H b = some (.row te sz fz (F e l)) := by exact rfl) (hz : ∀ a, (e a).length = sz := by exact fun _ => rfl) (hc : (e a)[o]? = some ay := by exact rfl) (hdo : dstOk c.N (some d) = true := by exact rfl) : RunN c ops hot Q i0 false ⟨some d, .load t x, ty, pos, af, none⟩ lq ⟨T, H, M⟩ :=
  RN_load ht hag hx (show memAt H (.ptr b (i.toNat * sz + o)) = some ((F e l).drop (i.toNat * sz + o)) by simp only [memAt, hb]) (F_head hz ha hc) hdo hnext
theorem n_ldra {te : TypeId} {α : Type} {l : List α} {e : α → List AV} {a : α} {b fz sz : Nat} {i : Int} {t : TypeId} {x : Operand} {ti : TI} (ha : at' l i = some a) (hnext : RunM c ops hot Q lq ⟨(d, .agg (e a)) :: T, H, M⟩) (ht : tget c.U t = some ti := by exact rfl) (hag : aggD ti.desc = true := by exact rfl) (hx : opv T x = some (.ptr b (i.toNat * sz)) := by exact rfl) (hb : hget H b = some (.row te sz fz (F e l)) := by exact rfl) (hsz : ti.size = sz := by exact rfl) (hz : ∀ a, (e a).length = sz := by exact fun _ => rfl) (hdo : dstOk c.N (some d) = true := by exact rfl) : RunN c ops hot Q i0 false ⟨some d, .load t x, ty, pos, af, none⟩ lq ⟨T, H, M⟩ :=
  RN_load_agg ht hag hx (show memAt H (.ptr b (i.toNat * sz)) = some ((F e l).drop (i.toNat * sz)) by simp only [memAt, hb]) (by rw [hsz]; exact F_take hz ha) (by rw [hsz]; exact hz a) hdo hnext
theorem n_lit {α : Type} {e : α → List AV} (l : List α) {t : TypeId} {n : Nat} {parts : Array (Nat × Operand)} {axs : List AV} {ti ei : TI} {et k : Nat} (hnext : RunM c ops hot Q lq ⟨(d, .sl (nm (some d)) 0 l.length) :: T, (nm (some d), .row et k 0 (F e l)) :: H, M⟩) (ht : tget c.U t = some ti := by exact rfl) (htd : ti.desc = .slice et := by exact rfl) (he : tget c.U et = some ei := by exact rfl) (hk : ei.size = k := by exact rfl) (hk0 : Nat.blt 0 k = true := by exact rfl) (hzs : ei.zero.cells.size = k := by exact rfl) (hparts : seqB 0 parts.toList = true := by exact rfl) (hn : parts.toList.length = n := by exact rfl) (hn0 : Nat.blt 0 n = true := by exact rfl) (hx : opvL T (parts.toList.map (·.2)) = some axs := by exact rfl) (hfit : fitAll k axs = true := by exact rfl) (hcs : cellsL axs = F e l := by exact rfl) (hl : l.length = n := by exact rfl) (hlim : Nat.ble (n * k) (2 ^ 24) = true := by exact rfl) (hb : hget H (nm (some d)) = none := by exact rfl) (hdo : dstOk c.N (some d) = true := by exact rfl) : RunN c ops hot Q i0 true ⟨some d, .buildSlice t n parts, ty, pos, af, none⟩ lq ⟨T, H, M⟩ :=
  RN_buildSliceN ht htd he hk hk0 hzs hparts hn hn0 hx hfit hcs hlim hb hdo (by rw [← hl]; exact hnext)
theorem n_appo {te' : TypeId} {α ρ : Type} {e : α → List AV} {kk : List α → Option ρ} {r : ρ} {l m : List α} {sz b b' k fz' : Nat} {t : TypeId} {x y : Operand} {ti ei : TI} {et : TypeId} (h : (app sz l m).bind kk = some r) (hn : ∀ v, app sz l m = some v → kk v = some r → RunM c ops hot Q lq ⟨(d, .sl b 0 v.length) :: killT b T, (b, .row et k 0 (F e v)) :: killH b H, b :: M⟩) (hh : mem i0 hot = true := by exact rfl) (ht : tget c.U t = some ti := by exact rfl) (htd : ti.desc = .slice et := by exact rfl) (he : tget c.U et = some ei := by exact rfl) (hk : ei.size = k := by exact rfl) (hzs : ei.zero.cells.size = k := by exact rfl) (hbb : ei.bytes = sz := by exact rfl) (hbp : Nat.blt 0 sz = true := by exact rfl) (hx : opv T x = some (.sl b 0 l.length) := by exact rfl) (hb : hget H b = some (.row et k 0 (F e l)) := by exact rfl) (hy : opv T y = some (.sl b' 0 m.length) := by exact rfl) (hb' : hget H b' = some (.row te' k fz' (F e m)) := by exact rfl) (hz : ∀ a, (e a).length = k := by exact fun _ => rfl) (hdo : dstOk c.N (some d) = true := by exact rfl) : RunN c ops hot Q i0 true ⟨some d, .call { callee := .builtin .append, args := #[x, y], argTypes := #[t, t] }, ty, pos, af, none⟩ lq ⟨T, H, M⟩ := by
  obtain ⟨v, hv, h⟩ := bind_some h
  have h2 := hn v hv h
  obtain ⟨hl, rfl⟩ := app_some hv
  subst hbb
  have hbp : 0 < ei.bytes := by simpa [Nat.blt_eq] using hbp
  rw [List.length_append, F_app hz] at h2
  exact RN_append ht htd he hk hzs hbp hx hb (by rw [F_length hz]; omega) (Nat.zero_le _) hy (show srcAt H k (.sl b' 0 m.length) = some (m.length, F e m) by simp only [srcAt, hb', List.drop_zero]; rw [List.take_of_length_le (by rw [F_length hz]; omega)]) (F_length hz m) hl hdo hh h2
theorem n_callF {α ρ : Type} {P : Program} {g : Option α} {kk : α → Option ρ} {r : ρ} {E : α → AV} {cl : Call} {k : FuncId} {cap es args : List AV} (hc : AV.closedL cap = true ∧ AV.onlyL [] cap = true) (h : g.bind kk = some r) (hs : ∀ v, g = some v → XSpec P k args [] (E v) [] []) (hn : ∀ v, g = some v → kk v = some r → RunM c ops hot Q lq ⟨(d, E v) :: T, H, M⟩)
    (hP : c.P = P := by exact rfl) (hk : calleeOf T cl.callee = some (k, [], cap) := by exact rfl) (ha : opvL T cl.args.toList = some es := by exact rfl) (hargs : [] ++ es ++ cap = args := by exact rfl) (hcl : AV.onlyL [] es = true := by exact rfl) (hdo : dstOk c.N (some d) = true := by exact rfl) : RunN c ops hot Q i0 true ⟨some d, .call cl, ty, pos, af, none⟩ lq ⟨T, H, M⟩ := by
  obtain ⟨v, hv, h⟩ := bind_some h
  subst hargs
  exact RN_pcall (hs v hv).p hP hk ha rfl (by rw [List.nil_append]; exact onlyL_app hcl hc.2) hdo (hn v hv h)
theorem n_max2 {x y : Operand} {argTs : Array TypeId} {k : IntKind} {m n : Int} (hnext : RunM c ops hot Q lq ⟨(d, .pl (.int k (mx m n))) :: T, H, M⟩) (hx : opv T x = some (.pl (.int k m)) := by exact rfl) (hy : opv T y = some (.pl (.int k n)) := by exact rfl) (hdo : dstOk c.N (some d) = true := by exact rfl) : RunN c ops hot Q i0 false ⟨some d, .call { callee := .builtin .max, args := #[x, y], argTypes := argTs }, ty, pos, af, none⟩ lq ⟨T, H, M⟩ := RunN_q (s := ⟨T, H, M⟩) (q_max2 hx hy) rfl hdo hnext
theorem n_ldr0 {te : TypeId} {α : Type} {l : List α} {e : α → List AV} {a : α} {b fz sz : Nat} {i : Int} {t : TypeId} {x : Operand} {ay : AV} {ti : TI} (ha : at' l i = some a) (hnext : RunM c ops hot Q lq ⟨(d, ay) :: T, H, M⟩) (ht : tget c.U t = some ti := by exact rfl) (hag : aggD ti.desc = false := by exact rfl) (hx : opv T x = some (.ptr b (i.toNat * sz)) := by exact rfl) (hb : hget H b = some (.row te sz fz (F e l)) := by exact rfl) (hz : ∀ a, (e a).length = sz := by exact fun _ => rfl) (hc : (e a)[0]? = some ay := by exact rfl) (hdo : dstOk c.N (some d) = true := by exact rfl) : RunN c ops hot Q i0 false ⟨some d, .load t x, ty, pos, af, none⟩ lq ⟨T, H, M⟩ :=
  RN_load ht hag hx (show memAt H (.ptr b (i.toNat * sz)) = some ((F e l).drop (i.toNat * sz)) by simp only [memAt, hb]) (F_head (o := 0) hz ha hc) hdo hnext
theorem n_appq {te' : TypeId} {α ρ : Type} {e : α → List AV} {kk : List α → Option ρ} {r : ρ} {l m : List α} {sz b b' k fz' q n : Nat} {t : TypeId} {x y : Operand} {ti ei : TI} {et : TypeId} (h : (appp sz l m q n).bind kk = some r) (hn : ∀ v, kk v = some r → RunM c ops hot Q lq ⟨(d, .sl b 0 v.length) :: killT b T, (b, .row et k 0 (F e v)) :: killH b H, b :: M⟩) (hh : mem i0 hot = true := by exact rfl) (ht : tget c.U t = some ti := by exact rfl) (htd : ti.desc = .slice et := by exact rfl) (he : tget c.U et = some ei := by exact rfl) (hk : ei.size = k := by exact rfl) (hzs : ei.zero.cells.size = k := by exact rfl) (hbb : ei.bytes = sz := by exact rfl) (hbp : Nat.blt 0 sz = true := by exact rfl) (hx : opv T x = some (.sl b 0 l.length) := by exact rfl) (hb : hget H b = some (.row et k 0 (F e l)) := by exact rfl) (hy : opv T y = some (.sl b' (q * k) n) := by exact rfl) (hb' : hget H b' = some (.row te' k fz' (F e m)) := by exact rfl) (hz : ∀ a, (e a).length = k := by exact fun _ => rfl) (hdo : dstOk c.N (some d) = true := by exact rfl) : RunN c ops hot Q i0 true ⟨some d, .call { callee := .builtin .append, args := #[x, y], argTypes := #[t, t] }, ty, pos, af, none⟩ lq ⟨T, H, M⟩ := by
  obtain ⟨v, hv, h⟩ := bind_some h
  have h2 := hn v h
  obtain ⟨p, hp, hv⟩ := bind_some hv;obtain ⟨hp1, hp2, hp3⟩ := prt_some hp;obtain ⟨hl, rfl⟩ := app_some hv
  subst hbb
  have hbp : 0 < ei.bytes := by simpa [Nat.blt_eq] using hbp
  rw [List.length_append, F_app hz, hp3] at h2
  rw [hp3] at hl
  exact RN_append ht htd he hk hzs hbp hx hb (by rw [F_length hz]; omega) (Nat.zero_le _) hy (show srcAt H k (.sl b' (q * k) n) = some (n, F e p) by simp only [srcAt, hb']; rw [hp2, F_sub hz]) (by rw [F_length hz, hp3]) hl hdo hh h2
theorem n_app0 {te' : TypeId} {α ρ : Type} {e : α → List AV} {kk : List α → Option ρ} {r : ρ} {l m : List α} {sz b b' k fz' n : Nat} {t : TypeId} {x y : Operand} {ti ei : TI} {et : TypeId} (h : (appp sz l m 0 n).bind kk = some r) (hn : ∀ v, kk v = some r → RunM c ops hot Q lq ⟨(d, .sl b 0 v.length) :: killT b T, (b, .row et k 0 (F e v)) :: killH b H, b :: M⟩) (hh : mem i0 hot = true := by exact rfl) (ht : tget c.U t = some ti := by exact rfl) (htd : ti.desc = .slice et := by exact rfl) (he : tget c.U et = some ei := by exact rfl) (hk : ei.size = k := by exact rfl) (hzs : ei.zero.cells.size = k := by exact rfl) (hbb : ei.bytes = sz := by exact rfl) (hbp : Nat.blt 0 sz = true := by exact rfl) (hx : opv T x = some (.sl b 0 l.length) := by exact rfl) (hb : hget H b = some (.row et k 0 (F e l)) := by exact rfl) (hy : opv T y = some (.sl b' 0 n) := by exact rfl) (hb' : hget H b' = some (.row te' k fz' (F e m)) := by exact rfl) (hz : ∀ a, (e a).length = k := by exact fun _ => rfl) (hdo : dstOk c.N (some d) = true := by exact rfl) : RunN c ops hot Q i0 true ⟨some d, .call { callee := .builtin .append, args := #[x, y], argTypes := #[t, t] }, ty, pos, af, none⟩ lq ⟨T, H, M⟩ :=
  n_appq (q := 0) h hn hh ht htd he hk hzs hbb hbp hx hb (by rw [Nat.zero_mul]; exact hy) hb' hz hdo
theorem n_eqf {op : BinOp} {t t' : TypeId} {x y : Operand} (l : List FV) {r : Bool} {ti : TI} {fs : Array Field} (hsh : c.P.stoodInHeld t = false) (hgt : c.P.eqGuardType c.P.depth t = false) (hnext : RunM c ops hot Q lq ⟨(d, (.pl (.bool r))) :: T, H, M⟩) (ht : tget c.U t = some ti := by exact rfl) (hd : ti.desc = .struct fs := by exact rfl) (hB : fvOk c.U 0 fs.toList l = true := by exact rfl) (hx : opv T x = some (.agg (l.map FV.x)) := by exact rfl) (hy : opv T y = some (.agg (l.map FV.y)) := by exact rfl) (hop : (op = .eql ∧ r = FV.all l) ∨ (op = .neq ∧ r = !(FV.all l)) := by first | exact Or.inl ⟨rfl, rfl⟩ | exact Or.inr ⟨rfl, rfl⟩) (hdo : dstOk c.N (some d) = true := by exact rfl) : RunN c ops hot Q i0 false ⟨some d, .binOp op t x y t', ty, pos, af, none⟩ lq ⟨T, H, M⟩ := RunN_q (s := ⟨T, H, M⟩) (q_eqf hsh hgt ht hd hB hx rfl hy rfl hop) rfl hdo hnext
theorem n_shlC {t t' : TypeId} {x y : Operand} {k k' : IntKind} {m n r : Int} (hnext : RunM c ops hot Q lq ⟨(d, .pl (.int k (k.wrap r))) :: T, H, M⟩) (hx : opv T x = some (.pl (.int k m)) := by exact rfl) (hy : opv T y = some (.pl (.int k' n)) := by exact rfl) (hr : W.shl k.bits m n = some r := by exact rfl) (hdo : dstOk c.N (some d) = true := by exact rfl) : RunN c ops hot Q i0 false ⟨some d, .binOp .shl t x y t', ty, pos, af, none⟩ lq ⟨T, H, M⟩ := RunN_q (s := ⟨T, H, M⟩) (q_shl hx hy hr) rfl hdo hnext
theorem n_bits {op : BinOp} {t t' : TypeId} {x y : Operand} {k : IntKind} {m n r : Int} (hnext : RunM c ops hot Q lq ⟨(d, .pl (.int k (k.wrap r))) :: T, H, M⟩) (hx : opv T x = some (.pl (.int k m)) := by exact rfl) (hy : opv T y = some (.pl (.int k n)) := by exact rfl) (hr : bitsOf op k.bits m n = some r := by exact rfl) (hdo : dstOk c.N (some d) = true := by exact rfl) : RunN c ops hot Q i0 false ⟨some d, .binOp op t x y t', ty, pos, af, none⟩ lq ⟨T, H, M⟩ := RunN_q (s := ⟨T, H, M⟩) (q_bits hx hy hr) rfl hdo hnext
theorem n_capn {t : TypeId} {x : Operand} {ti : TI} {et : TypeId} (hnext : RunM c ops hot Q lq ⟨(d, I 0) :: T, H, M⟩) (ht : tget c.U t = some ti := by exact rfl) (htd : ti.desc = .slice et := by exact rfl) (hx : opv T x = some (.pl (.slice none 0 0)) := by exact rfl) (hdo : dstOk c.N (some d) = true := by exact rfl) : RunN c ops hot Q i0 false ⟨some d, .call { callee := .builtin .cap, args := #[x], argTypes := #[t] }, ty, pos, af, none⟩ lq ⟨T, H, M⟩ := RunN_q (s := ⟨T, H, M⟩) (q_capn ht htd hx) rfl hdo hnext
theorem n_subp {te : TypeId} {ρ : Type} {kk : Unit → Option ρ} {r : ρ} {t : TypeId} {x : Operand} {hi : Option Operand} {b n k fz : Nat} {j : Int} {cs : List AV} {ti ei : TI} {et : TypeId} (h : (rng (n : Int) 0 j).bind kk = some r) (hn : kk () = some r → RunM c ops hot Q lq ⟨(d, .sl b 0 j.toNat) :: T, H, M⟩) (ht : tget c.U t = some ti := by exact rfl) (htd : ti.desc = .slice et := by exact rfl) (he : tget c.U et = some ei := by exact rfl) (hx : opv T x = some (.sl b 0 n) := by exact rfl) (hb : hget H b = some (.row te k fz cs) := by exact rfl) (hk : ei.size = k := by exact rfl) (hhi : bnd T (n : Int) hi = some j := by exact rfl) (hdo : dstOk c.N (some d) = true := by exact rfl) : RunN c ops hot Q i0 false ⟨some d, .slice t x none hi none, ty, pos, af, none⟩ lq ⟨T, H, M⟩ := by
  obtain ⟨u, hv, h⟩ := bind_some h;obtain ⟨h1, h2, h3⟩ := rng_some hv;exact RunN_q (s := ⟨T, H, M⟩) (q_slice_part ht htd he hx hb hk (l := 0) (h := j.toNat) rfl (by rw [hhi]; congr 1; omega) (by omega) (by omega) (by rw [Nat.zero_mul])) rfl hdo (hn h)
theorem n_put {te : TypeId} {α ρ : Type} {l : List α} {e : α → List AV} {a a' : α} {kk : List α → Option ρ} {r : ρ} {t : TypeId} {x y : Operand} {ay : AV} {es : List AV} {b o sz : Nat} {i : Int} {ti : TI} (ha : at' l i = some a) (h : (put l i a').bind kk = some r) (hn : ∀ v, v.length = l.length → kk v = some r → RunM c ops hot Q lq ⟨T, hset H b (.row te sz 0 (F e v)), M⟩) (hh : mem i0 hot = true := by exact rfl) (ht : tget c.U t = some ti := by exact rfl) (hx : opv T x = some (.ptr b (i.toNat * sz + o)) := by exact rfl) (hy : opv T y = some ay := by exact rfl) (hes : cellsA ay = es := by exact rfl) (hf : fit ay = true := by exact rfl) (hl : es.length = ti.size := by exact rfl) (hcl : AV.closedL es = true := by exact rfl) (hb : hget H b = some (.row te sz 0 (F e l)) := by exact rfl) (hz : ∀ a, (e a).length = sz := by exact fun _ => rfl) (hpos : Nat.blt 0 ti.size = true := by exact rfl) (hin : Nat.ble (o + es.length) sz = true := by exact rfl) (hu : updL (e a) o es = e a' := by exact rfl) : RunN c ops hot Q i0 true ⟨none, .store t x y, ty, pos, af, none⟩ lq ⟨T, H, M⟩ := by
  obtain ⟨v, hv, h⟩ := bind_some h;obtain ⟨h0, hlt, rfl⟩ := put_some hv
  have hin := Nat.le_of_ble_eq_true hin
  have hpos : 0 < ti.size := by simpa [Nat.blt_eq] using hpos
  have h2 := hn _ (by simp) h
  rw [← F_put hz ha hin hu] at h2
  have hi : i.toNat < l.length := by omega
  have hle : i.toNat * sz + sz ≤ l.length * sz := by rw [← Nat.succ_mul]; exact Nat.mul_le_mul_right _ hi
  exact RunN_e (s := ⟨T, H, M⟩) hh (e_store_row ht hx hy hes hf hl hcl hb (Nat.zero_le _) (by rw [F_length hz]; omega) hpos rfl) rfl h2
theorem n_put0 {te : TypeId} {α ρ : Type} {l : List α} {e : α → List AV} {a a' : α} {kk : List α → Option ρ} {r : ρ} {t : TypeId} {x y : Operand} {ay : AV} {es : List AV} {b sz : Nat} {i : Int} {ti : TI} (ha : at' l i = some a) (h : (put l i a').bind kk = some r) (hn : ∀ v, v.length = l.length → kk v = some r → RunM c ops hot Q lq ⟨T, hset H b (.row te sz 0 (F e v)), M⟩) (hh : mem i0 hot = true := by exact rfl) (ht : tget c.U t = some ti := by exact rfl) (hx : opv T x = some (.ptr b (i.toNat * sz)) := by exact rfl) (hy : opv T y = some ay := by exact rfl) (hes : cellsA ay = es := by exact rfl) (hf : fit ay = true := by exact rfl) (hl : es.length = ti.size := by exact rfl) (hcl : AV.closedL es = true := by exact rfl) (hb : hget H b = some (.row te sz 0 (F e l)) := by exact rfl) (hz : ∀ a, (e a).length = sz := by exact fun _ => rfl) (hpos : Nat.blt 0 ti.size = true := by exact rfl) (hin : Nat.ble es.length sz = true := by exact rfl) (hu : updL (e a) 0 es = e a' := by exact rfl) : RunN c ops hot Q i0 true ⟨none, .store t x y, ty, pos, af, none⟩ lq ⟨T, H, M⟩ :=
  n_put (o := 0) ha h hn hh ht hx hy hes hf hl hcl hb hz hpos (by rw [Nat.zero_add]; exact hin) hu
theorem Sat.relen {a : Act} {w : World} {t b o n m : Nat} (h : Sat c ⟨T, H, M⟩ a w) (ht : get T t = some (.sl b o n)) (e : n = m) : Sat c ⟨(t, .sl b o m) :: T, H, M⟩ a w := by subst e; exact h.weak ht (fun _ _ _ _ h => h)
theorem k_relen {code : Code} {b o n : Nat} (t m : Nat) (h : Run c Q code ⟨(t, .sl b o m) :: T, H, M⟩) (ht : get T t = some (.sl b o n) := by exact rfl) (e : n = m := by omega) : Run c Q code ⟨T, H, M⟩ := fun a w hs => h a w (hs.relen ht e)
theorem l_relen {b o n : Nat} (t m : Nat) (h : RunL c ops Q rest ⟨(t, .sl b o m) :: T, H, M⟩) (ht : get T t = some (.sl b o n) := by exact rfl) (e : n = m := by omega) : RunL c ops Q rest ⟨T, H, M⟩ := fun a w hs => h a w (hs.relen ht e)
theorem m_relen {b o n : Nat} (t m : Nat) (h : RunM c ops hot Q lq ⟨(t, .sl b o m) :: T, H, M⟩) (ht : get T t = some (.sl b o n) := by exact rfl) (e : n = m := by omega) : RunM c ops hot Q lq ⟨T, H, M⟩ := fun a w hs => h a w (hs.relen ht e)
theorem f_relen {x : Exit} {b o n : Nat} (t m : Nat) (h : Fin c Q x ⟨(t, .sl b o m) :: T, H, M⟩) (ht : get T t = some (.sl b o n) := by exact rfl) (e : n = m := by omega) : Fin c Q x ⟨T, H, M⟩ := fun a w hs => h a w (hs.relen ht e)
theorem l_frz (b : Nat) {ob : AObj} {cs : List AV} (h : RunL c ops Q rest ⟨mapT (frzW b cs) T, mapH (frzW b cs) (hdel H b), b :: M⟩) (hb : hget H b = some ob := by exact rfl) (hcs : cellsOf ob = some cs := by exact rfl) : RunL c ops Q rest ⟨T, H, M⟩ := fun a w hs => h a w (hs.frzW hb hcs)
theorem m_frz (b : Nat) {ob : AObj} {cs : List AV} (h : RunM c ops hot Q lq ⟨mapT (frzW b cs) T, mapH (frzW b cs) (hdel H b), b :: M⟩) (hb : hget H b = some ob := by exact rfl) (hcs : cellsOf ob = some cs := by exact rfl) : RunM c ops hot Q lq ⟨T, H, M⟩ := fun a w hs => h a w (hs.frzW hb hcs)
theorem f_frz {e : Exit} (b : Nat) {ob : AObj} {cs : List AV} (h : Fin c Q e ⟨mapT (frzW b cs) T, mapH (frzW b cs) (hdel H b), b :: M⟩) (hb : hget H b = some ob := by exact rfl) (hcs : cellsOf ob = some cs := by exact rfl) : Fin c Q e ⟨T, H, M⟩ := fun a w hs => h a w (hs.frzW hb hcs)
theorem k_nilrow {te : TypeId} {code : Code} {t : Nat} (b k : Nat) (h : Run c Q code ⟨(t, .sl b 0 0) :: T, (b, .row te k 0 []) :: H, M⟩) (ht : get T t = some (.pl (.slice none 0 0)) := by exact rfl) (hb : hget H b = none := by exact rfl) : Run c Q code ⟨T, H, M⟩ := Run_nilrow b k ht hb h
theorem f_nilrow {te : TypeId} {e : Exit} {t : Nat} (b k : Nat) (h : Fin c Q e ⟨(t, .sl b 0 0) :: T, (b, .row te k 0 []) :: H, M⟩) (ht : get T t = some (.pl (.slice none 0 0)) := by exact rfl) (hb : hget H b = none := by exact rfl) : Fin c Q e ⟨T, H, M⟩ := Fin_nilrow b k ht hb h
theorem k_nilcell {te : TypeId} {tb : TypeId} {code : Code} {b1 j : Nat} {cs : List AV} (b k : Nat) (h : Run c Q code ⟨T, hset ((b, .row te k 0 []) :: H) b1 (.box tb (cs.set j (.sl b 0 0))), M⟩) (hb1 : hget H b1 = some (.box tb cs) := by exact rfl) (hj : cs[j]? = some (.pl (.slice none 0 0)) := by exact rfl) (hb : hget H b = none := by exact rfl) : Run c Q code ⟨T, H, M⟩ := Run_nilcell b k hb1 hj hb h
theorem l_next {ρ : Type} {x : Operand} {b p : Nat} {l : List UInt8} {o1 o2 : Option ρ} {r : ρ} (h : (bif decide (p < l.length) then o1 else o2) = some r) (ht : decide (p < l.length) = true → o1 = some r → RunL c ops Q rest ⟨(d, .tup [B true, I (p : Int), .pl (.int .i32 ((dec l p).1 : Int))]) :: T, hset H b (.siter ⟨l.toArray⟩ (p + (dec l p).2)), M⟩)
    (hf : decide (p < l.length) = false → o2 = some r → RunL c ops Q rest ⟨(d, .tup [B false]) :: T, H, M⟩) (hx : opv T x = some (.it b) := by exact rfl) (hb : hget H b = some (.siter ⟨l.toArray⟩ p) := by exact rfl) (hdo : dstOk c.N (some d) = true := by exact rfl) : RunL c ops Q (⟨some d, .next x true, ty, pos, af, none⟩ :: rest) ⟨T, H, M⟩ := by
  rcases cond_some h with ⟨e, h⟩ | ⟨e, h⟩
  · refine RunL_e (s := ⟨T, H, M⟩) (e_next hx hb (by have := of_decide_eq_true e; exact this) hdo) rfl ?_
    rw [dec_eq]
    exact ht e h
  · exact RunL_e (s := ⟨T, H, M⟩) (e_next_end hx hb (by have := of_decide_eq_false e; exact this) hdo) rfl (hf e h)
theorem ret_xL {P : Program} {U : List (Nat × TI)} {hU : TabOk P U} {F : Nat → Prop} {β : Emb} {w0 : World} {N : Nat} {fn : Func} {H' : List (Nat × AObj)} {Nm mv : List Nat} {r r' r2 : AV} (σ : List (Nat × Nat))
    (hN : ∀ b p, β b = some p → mem b Nm = true) (hres : resAV U T H fn.results.toList = some r') (hle : AV.Le r' r2) (hσ : okS σ = true) (hr : r2.mapN (reL σ) = r) (hH : pickS σ σ H = some H') (hM : okM σ M mv Nm = true) {a : Act} {w : World} (hs : Sat ⟨P, U, hU, F, β, w0, N, []⟩ ⟨T, H, M⟩ a w) :
    a.defers = [] ∧ ∃ v, (results fn a.tmps).run P w = .ok v w ∧ Rpost (fun x H'' M' => x = r ∧ H'' = H' ∧ M' = mv) F β w0 (.returned v) w := by
  obtain ⟨β', hs⟩ := hs;obtain ⟨u, hu, hv⟩ := run_results hs hres
  have hv := hle _ _ _ _ hv
  have hO : ∀ k, off F (reB σ β') k → off F β' k ∨ w.heap.size ≤ k := fun k hk => .inl (hk.imp id reB_own)
  refine ⟨hs.defers, u, hu, r, u, H', mv, reB σ β', rfl, ⟨rfl, rfl, rfl⟩, hs.heap.re hσ hH, ?_, ?_, fun b p hp hm => ?_⟩
  · rw [← hr]; exact VRel.mapN (Nat.le_refl _) hO (fun _ _ _ => rfl) (reL_rel hσ) hv
  · exact ⟨hs.keeps.os, hs.keeps.tape, hs.keeps.output, hs.keeps.size, hs.keeps.block, fun k hk => hs.keeps.grows k (reB_own hk)⟩
  · obtain ⟨h1, h2⟩ := okM_get hM (hN b p hp) hm;exact reB_some.2 ⟨b, lk_rk hσ h1, hs.stay b p hp h2⟩
theorem k_retN {ρ : Type} {P : Program} {U : List (Nat × TI)} {hU : TabOk P U} {F : Nat → Prop} {β : Emb} {w0 : World} {N : Nat} {fn : Func} {H' : ρ → List (Nat × AObj)} {Nm mv : List Nat} {v r : ρ} {E : ρ → AV} {r' : AV} (σ : List (Nat × Nat))
    (hN : ∀ b p, β b = some p → mem b Nm = true) (h : some v = some r) (hres : resAV U T H fn.results.toList = some r' := by exact rfl) (hr : (nilN r').mapN (reL σ) = E v := by exact rfl) (hσ : okS σ = true := by exact rfl) (hH : pickS σ σ H = some (H' v) := by exact rfl) (hM : okM σ M mv Nm = true := by exact rfl) :
    Fin ⟨P, U, hU, F, β, w0, N, []⟩ (bodyPost P fn (Rpost (fun x H'' M' => x = E r ∧ H'' = H' r ∧ M' = mv) F β w0)) .ret ⟨T, H, M⟩ := by
  cases h
  exact fun a w hs => ret_xL σ hN hres (nilN_le _) hσ hr hH hM hs
theorem k_nd {x : Operand} {p q : Code} {b : Bool} (ht : b = true → Run c Q p ⟨T, H, M⟩) (hf : b = false → Run c Q q ⟨T, H, M⟩) (hx : opv T x = some (.pl (.bool b)) := by exact rfl) : Run c Q (.cond x p q) ⟨T, H, M⟩ := by
  cases b with
  | true => exact Run_cond_true hx (ht rfl)
  | false => exact Run_cond_false hx (hf rfl)
theorem l_eqn {ρ : Type} {n m : Nat} {kk : Unit → Option ρ} {r : ρ} (h : (eqn n m).bind kk = some r) (hn : n = m → kk () = some r → RunL c ops Q rest ⟨T, H, M⟩) : RunL c ops Q rest ⟨T, H, M⟩ := by
  obtain ⟨u, hv, h⟩ := bind_some h;exact hn (eqn_some hv) h
theorem l_eqnil {t t' : TypeId} {x : Operand} {cs : List AV} {n : Nat} {ti : TI} {e : TypeId} (hn : ∀ b : Bool, (b = true → n = 0) → RunL c ops Q rest ⟨(d, .pl (.bool b)) :: T, H, M⟩) (ht : tget c.U t = some ti := by exact rfl) (htd : ti.desc = .slice e := by exact rfl) (hx : opv T x = some (.vs n cs) := by exact rfl) (hdo : dstOk c.N (some d) = true := by exact rfl) : RunL c ops Q (⟨some d, .binOp .eql t x (.const (.slice none 0 0)) t', ty, pos, af, none⟩ :: rest) ⟨T, H, M⟩ := RL_eqnil ht htd hx rfl hdo hn
theorem gs {o : Oper} {s : St} (h : RunS c ops hot Q i0 o lq s) (hi : ops[i0]? = some o := by (simp only [List.getElem?_toArray, List.getElem?_cons_zero, List.getElem?_cons_succ]; exact rfl)) : RunM c ops hot Q (.s i0 lq) s := RunM_gets hi h
theorem geq {o : Oper} {s : St} (h : RunN c ops hot Q i0 false o lq s) (hi : ops[i0]? = some o := by (simp only [List.getElem?_toArray, List.getElem?_cons_zero, List.getElem?_cons_succ]; exact rfl)) : RunM c ops hot Q (.e i0 lq) s := by
  intro a w hs
  have h1 := RunM_getq hi h a w hs
  simp only [wpMix, hi] at h1
  obtain ⟨v, hy, hn⟩ := h1;exact hy.wpOp hi (RowKit.Below.refl _ _) ⟨.inr (RowKit.Below.refl _ _), hn⟩
theorem m_alt {x y : Plan} {s : St} (h1 : RunM c ops hot Q (.e i0 x) s) (h2 : RunM c ops hot Q y s) : RunM c ops hot Q (.alt i0 x y) s := RunM_alt h1 h2
theorem x_move {x : Operand} {ax : AV} (hnext : RunM c ops hot Q lq ⟨(d, ax) :: T, H, M⟩) (hx : opv T x = some ax := by exact rfl) (hdo : dstOk c.N (some d) = true := by exact rfl) : RunS c ops hot Q i0 ⟨some d, .move x, ty, pos, af, none⟩ lq ⟨T, H, M⟩ := RunS_q (s := ⟨T, H, M⟩) (s_move hx) rfl hdo hnext
theorem x_fieldAddr {t : TypeId} {x : Operand} {i : Nat} {ax ay : AV} {ti fi : TI} {fs : Array Field} {f : Field} (hnext : RunM c ops hot Q lq ⟨(d, ay) :: T, H, M⟩) (ht : tget c.U t = some ti := by exact rfl) (hd : ti.desc = .struct fs := by exact rfl) (hf : fs[i]? = some f := by exact rfl) (hft : tget c.U f.type = some fi := by exact rfl) (hne : Nat.beq fi.size 0 = false := by exact rfl) (hx : opv T x = some ax := by exact rfl) (hy : addrOff ax f.offset = some ay := by exact rfl) (hdo : dstOk c.N (some d) = true := by exact rfl) : RunS c ops hot Q i0 ⟨some d, .fieldAddr t x i, ty, pos, af, none⟩ lq ⟨T, H, M⟩ := RunS_q (s := ⟨T, H, M⟩) (s_fieldAddr ht hd hf hft hne hx hy) rfl hdo hnext
theorem x_nilCheck {x : Operand} {ax ay : AV} (hnext : RunM c ops hot Q lq ⟨(d, ax) :: T, H, M⟩) (hx : opv T x = some ax := by exact rfl) (hy : addrOff ax 0 = some ay := by exact rfl) (hdo : dstOk c.N (some d) = true := by exact rfl) : RunS c ops hot Q i0 ⟨some d, .nilCheck x, ty, pos, af, none⟩ lq ⟨T, H, M⟩ := RunS_q (s := ⟨T, H, M⟩) (s_nilCheck hx hy) rfl hdo hnext
theorem x_at {α ρ : Type} {l : List α} {e : α → List AV} {kk : α → Option ρ} {r : ρ} {t : TypeId} {x y : Operand} {k : IntKind} {i : Int} {ti ei : TI} {et : TypeId} (h : (at' l i).bind kk = some r) (hn : ∀ a, at' l i = some a → kk a = some r → RunM c ops hot Q lq ⟨(d, .vptr (e a)) :: T, H, M⟩)
    (ht : tget c.U t = some ti := by exact rfl) (htd : ti.desc = .slice et := by exact rfl) (he : tget c.U et = some ei := by exact rfl) (hx : opv T x = some (.vs l.length (F e l)) := by exact rfl) (hy : opv T y = some (.pl (.int k i)) := by exact rfl) (hz : ∀ a, (e a).length = ei.size := by exact fun _ => rfl) (hdo : dstOk c.N (some d) = true := by exact rfl) : RunS c ops hot Q i0 ⟨some d, .indexAddr t x y, ty, pos, af, none⟩ lq ⟨T, H, M⟩ := by
  obtain ⟨a, ha, h⟩ := bind_some h;obtain ⟨h0, hlt, hg⟩ := at'_some ha;exact RunS_q (s := ⟨T, H, M⟩) (s_indexAddr_vsD ht htd he hx hy ⟨h0, hlt⟩ (F_at hz ha)) rfl hdo fun a' w hs => hn a ha h a' w (hs.weak1 (Le_vptr _ _))
theorem x_sub0 {te : TypeId} {ρ : Type} {kk : Unit → Option ρ} {r : ρ} {t : TypeId} {x : Operand} {lo hi : Option Operand} {b n k fz : Nat} {i j : Int} {cs : List AV} {ti ei : TI} {et : TypeId} (h : (rng (n : Int) i j).bind kk = some r) (hn : kk () = some r → RunM c ops hot Q lq ⟨(d, .sl b (i.toNat * k) (j.toNat - i.toNat)) :: T, H, M⟩) (ht : tget c.U t = some ti := by exact rfl) (htd : ti.desc = .slice et := by exact rfl) (he : tget c.U et = some ei := by exact rfl) (hx : opv T x = some (.sl b 0 n) := by exact rfl) (hb : hget H b = some (.row te k fz cs) := by exact rfl) (hk : ei.size = k := by exact rfl) (hlo : bnd T 0 lo = some i := by exact rfl) (hhi : bnd T (n : Int) hi = some j := by exact rfl) (hdo : dstOk c.N (some d) = true := by exact rfl) : RunS c ops hot Q i0 ⟨some d, .slice t x lo hi none, ty, pos, af, none⟩ lq ⟨T, H, M⟩ := by
  obtain ⟨u, hv, h⟩ := bind_some h;obtain ⟨h1, h2, h3⟩ := rng_some hv;exact RunS_q (s := ⟨T, H, M⟩) (s_slice_part ht htd he hx hb hk (l := i.toNat) (h := j.toNat) (by rw [hlo]; congr 1; omega) (by rw [hhi]; congr 1; omega) (by omega) (by omega) (by rw [Nat.zero_add])) rfl hdo (hn h)
end
end Go.Abs
set_option linter.unusedVariables false
set_option linter.unusedSimpArgs false
set_option linter.unusedSectionVars false
namespace Go.Abs
open Go Go.RowKit Go.Proofs W
variable [GTab]
section
variable {c : Ctx} {s : St} {d : Option Tmp} {ty : TypeId} {pos : String} {af : Array Edge} {g : Option (Nat × Bool)}
end
section
variable {c : Ctx} {s : St} {d : Option Tmp} {ty : TypeId} {pos : String} {af : Array Edge} {g : Option (Nat × Bool)}
end
section
variable {c : Ctx} {Q : Exit → Act → World → Prop} {T : List (Nat × AV)} {H : List (Nat × AObj)} {M : List Nat} {ops : Array Oper} {rest : List Oper} {d : Tmp} {ty : TypeId} {pos : String} {af : Array Edge}
theorem l_to {N : List Nat} (σ : List (Nat × Nat)) (S : St) (hB : ∀ b p, c.β0 b = some p → mem b N = true) (h : RunL c ops Q rest S)
    (hσ : okS σ = true := by exact rfl) (hH : pickS σ σ H = some S.H := by exact rfl) (hT : Sub S.T (mapT (reL σ) T) := by (repeat' first | exact True.intro | exact rfl | exact get_fn rfl (And.left (by assumption)) | apply And.intro)) (hM : okM σ M S.M N = true := by exact rfl) :
    RunL c ops Q rest ⟨T, H, M⟩ := fun a w hs => h a w (hs.to σ hσ hH hT hB hM)
end
end Go.Abs
set_option linter.unusedVariables false
set_option linter.unusedSimpArgs false
set_option linter.unusedSectionVars false
namespace Go.Abs
open Go Go.Shelf Go.RowKit Go.Lib Go.Sort Go.Proofs
variable [GTab]
section
variable {P : Program} {ρ : Ren} {α : Type} [Inhabited α]
end
end Go.Abs
set_option linter.unusedVariables false
set_option linter.unusedSimpArgs false
set_option linter.unusedSectionVars false
namespace Go.Abs
open Go Go.Shelf Go.RowKit Go.Lib Go.Sort Go.Proofs W
variable [GTab]
end Go.Abs
set_option linter.unusedVariables false
set_option linter.unusedSimpArgs false
set_option linter.unusedSectionVars false
namespace Go.Abs
open Go Go.RowKit Go.Proofs W
variable [GTab]
section
variable {c : Ctx} {Q : Exit → Act → World → Prop} {T : List (Nat × AV)} {H : List (Nat × AObj)} {M : List Nat} {ops : Array Oper} {rest : List Oper} {hot : List Nat} {lq : Plan}
theorem HRel.same {F : Nat → Prop} {β : Emb} {H H' : List (Nat × AObj)} {w : World} (h : HRel F β H w) (e : ∀ b, hget H' b = hget H b) : HRel F β H' w :=
  ⟨fun b o ho => h.obj b o (by rw [← e]; exact ho), fun b p hp => by rw [e]; exact h.dom b p hp, h.inj, h.fresh, h.apart, h.glob⟩
theorem Sat.relenc {tb : TypeId} {a : Act} {w : World} {b1 j b o n m : Nat} {cs : List AV} (h : Sat c ⟨T, H, M⟩ a w) (hb1 : hget H b1 = some (.box tb cs)) (hj : cs[j]? = some (.sl b o n)) (e : n = m) : Sat c ⟨T, hset H b1 (.box tb (cs.set j (.sl b o m))), M⟩ a w := by
  subst e
  obtain ⟨β, hs⟩ := h
  have hcs : cs.set j (.sl b o n) = cs := by
    apply List.ext_getElem?
    intro i
    by_cases hi : j = i
    · subst hi; rw [List.getElem?_set_self (List.getElem?_eq_some_iff.1 hj).1, hj]
    · rw [List.getElem?_set_ne hi]
  refine ⟨β, hs.defers, hs.size, hs.heap.same fun b' => ?_, hs.slot, hs.keeps, hs.stay⟩
  rw [hget_hset, hcs]
  by_cases hb : b1 = b'
  · subst hb; rw [if_pos rfl, hb1]
  · rw [if_neg hb]
theorem f_relenc {tb : TypeId} {ex : Exit} {b o n : Nat} {cs : List AV} (b1 j m : Nat) (h : Fin c Q ex ⟨T, hset H b1 (.box tb (cs.set j (.sl b o m))), M⟩) (hb1 : hget H b1 = some (.box tb cs) := by exact rfl) (hj : cs[j]? = some (.sl b o n) := by exact rfl) (e : n = m := by omega) : Fin c Q ex ⟨T, H, M⟩ := fun a w hs => h a w (hs.relenc hb1 hj e)
theorem l_nilt {x : AV} (t : Nat) (h : RunL c ops Q rest ⟨(t, nilN x) :: T, H, M⟩) (ht : get T t = some x := by exact rfl) : RunL c ops Q rest ⟨T, H, M⟩ := fun a w hs => h a w (hs.weak ht (nilN_le x))
theorem m_nilt {x : AV} (t : Nat) (h : RunM c ops hot Q lq ⟨(t, nilN x) :: T, H, M⟩) (ht : get T t = some x := by exact rfl) : RunM c ops hot Q lq ⟨T, H, M⟩ := fun a w hs => h a w (hs.weak ht (nilN_le x))
theorem l_nilcell {te : TypeId} {tb : TypeId} {b1 j : Nat} {cs : List AV} (b k : Nat) (h : RunL c ops Q rest ⟨T, hset ((b, .row te k 0 []) :: H) b1 (.box tb (cs.set j (.sl b 0 0))), M⟩) (hb1 : hget H b1 = some (.box tb cs) := by exact rfl) (hj : cs[j]? = some (.pl (.slice none 0 0)) := by exact rfl) (hb : hget H b = none := by exact rfl) : RunL c ops Q rest ⟨T, H, M⟩ := fun a w hs => h a w (hs.nilcell b k hb1 hj hb)
theorem f_nilcell {te : TypeId} {tb : TypeId} {e : Exit} {b1 j : Nat} {cs : List AV} (b k : Nat) (h : Fin c Q e ⟨T, hset ((b, .row te k 0 []) :: H) b1 (.box tb (cs.set j (.sl b 0 0))), M⟩) (hb1 : hget H b1 = some (.box tb cs) := by exact rfl) (hj : cs[j]? = some (.pl (.slice none 0 0)) := by exact rfl) (hb : hget H b = none := by exact rfl) : Fin c Q e ⟨T, H, M⟩ := fun a w hs => h a w (hs.nilcell b k hb1 hj hb)
end
theorem lift_x {P : Program} {k : FuncId} {args : List Value} {r : Value} (hf : ∀ (es : Array Value) (w : World), (callFunc k es).run P w = .ok (.enter k es) w)
    (h : ∀ w : World, (∀ g ∈ GTab.ints, ∃ n : Int, w.cell? ⟨g, 0, none⟩ = some (.int .i64 n)) → Calls P k args.toArray w fun e w' => e = .returned r ∧ w' = w) : XSpec P k (args.map AV.pl) [] (.pl r) [] [] := by
  refine ⟨hf, fun F β w vs hH hA => ?_⟩
  have hvs : vs = args := by
    apply List.ext_getElem?
    intro i
    have hl : (args.map AV.pl).length = vs.length := hA.1
    by_cases hi : i < args.length
    · have hi2 : i < vs.length := by rw [← hl]; simpa using hi
      rw [List.getElem?_eq_getElem hi, List.getElem?_eq_getElem hi2]
      have := (hA.2 i (AV.pl args[i]) vs[i] (by simp [hi]) (List.getElem?_eq_getElem hi2)).pl_eq
      rw [this]
    · rw [List.getElem?_eq_none (l := vs) (by rw [← hl]; simp; omega), List.getElem?_eq_none (l := args) (by omega)]
  subst hvs
  have hn : ∀ b, β b = none := fun b => by
    cases hb : β b with
    | none => rfl
    | some p => obtain ⟨o, ho⟩ := hH.dom b p hb; cases ho
  refine Calls.mono (h w fun g hg => ?_) ?_
  · obtain ⟨_, _, n, t, fr, hw⟩ := hH.glob.int g hg;exact ⟨n, by simp [World.cell?, hw]⟩
  · rintro e w' ⟨rfl, rfl⟩
    exact ⟨_, _, [], [], β, rfl, ⟨rfl, rfl, rfl⟩, hH, .c (.pl _), Keeps.refl _ _, fun b p hp => (by rw [hn b] at hp; cases hp)⟩
end Go.Abs
set_option linter.unusedVariables false
namespace W
variable {κ ν : Type} [DecidableEq κ]
def mget : List (κ × ν) → κ → Option ν
  | [], _ => none
  | (a, v) :: r, k => if k = a then some v else mget r k
def mput : List (κ × ν) → κ → ν → List (κ × ν)
  | [], k, v => [(k, v)]
  | (a, x) :: r, k, v => if k = a then (k, v) :: r else (a, x) :: mput r k v
end W
namespace W
def enc (r : Int) : Str :=
  let c := if 0 ≤ r ∧ validRune r.toNat = true then r.toNat else 0xFFFD
  if c < 0x80 then [UInt8.ofNat c]
  else if c < 0x800 then [UInt8.ofNat (0xC0 + c / 64), UInt8.ofNat (0x80 + c % 64)]
  else if c < 0x10000 then [UInt8.ofNat (0xE0 + c / 4096), UInt8.ofNat (0x80 + c / 64 % 64), UInt8.ofNat (0x80 + c % 64)]
  else [UInt8.ofNat (0xF0 + c / 262144), UInt8.ofNat (0x80 + c / 4096 % 64), UInt8.ofNat (0x80 + c / 64 % 64), UInt8.ofNat (0x80 + c % 64)]
def unsf (l : Str) : Option Str := if l.length ≤ 9223372036854775807 then some l else none
theorem unsf_some {l v : Str} (h : unsf l = some v) : l.length ≤ 9223372036854775807 ∧ v = l := by
  unfold unsf at h
  split at h
  · cases h; exact ⟨by assumption, rfl⟩
  · cases h
def mnz (n : Int) : Option Nat := if 0 ≤ n ∧ n ≤ 281474976710656 then some n.toNat else none
theorem mnz_some {n : Int} {v : Nat} (h : mnz n = some v) : (0 ≤ n ∧ n ≤ 281474976710656) ∧ v = n.toNat := by
  unfold mnz at h
  split at h
  · cases h; exact ⟨by assumption, rfl⟩
  · cases h
def atA {α : Type} (n : Nat) (l : List α) (i : Int) : Option α := if 0 ≤ i ∧ i < n then l[i.toNat]? else none
theorem atA_some {α : Type} {n : Nat} {l : List α} {i : Int} {a : α} (h : atA n l i = some a) : (0 ≤ i ∧ i < n) ∧ at' l i = some a := by
  unfold atA at h
  split at h
  · rename_i hi
    refine ⟨hi, ?_⟩;unfold at'
    rw [decide_eq_true hi.1]; exact h
  · cases h
def ne0 {α : Type} (l : List α) : Option Unit := if 0 < l.length then some () else none
theorem ne0_some {α : Type} {l : List α} {u : Unit} (h : ne0 l = some u) : 0 < l.length := by
  unfold ne0 at h
  split at h
  · assumption
  · cases h
def ins {α : Type} (sz : Nat) (l : List α) (i : Int) (v : List α) : Option (List α) :=
  bif decide (0 ≤ i ∧ i.toNat ≤ l.length ∧ (l.length + v.length) * sz ≤ 140737488355328) then some (l.take i.toNat ++ v ++ l.drop i.toNat) else none
theorem ins_some {α : Type} {sz : Nat} {l : List α} {i : Int} {v r : List α} (h : ins sz l i v = some r) : (0 ≤ i ∧ i.toNat ≤ l.length ∧ (l.length + v.length) * sz ≤ 140737488355328) ∧ r = l.take i.toNat ++ v ++ l.drop i.toNat := by
  unfold ins at h
  cases e : decide (0 ≤ i ∧ i.toNat ≤ l.length ∧ (l.length + v.length) * sz ≤ 140737488355328) with
  | false => rw [e] at h; cases h
  | true => rw [e] at h; cases h; exact ⟨of_decide_eq_true e, rfl⟩

end W
set_option linter.unusedVariables false
set_option linter.unusedSimpArgs false
set_option linter.unusedSectionVars false
namespace Go.Abs
open Go Go.RowKit Go.Proofs W
variable [GTab]
structure KeyK (κ : Type) [DecidableEq κ] (kd : TypeDesc) (kv : κ → Value) : Prop where
  same : ∀ a b, Instr.sameNow kd (kv a) (kv b) = some (decide (a = b))
  bits : ∀ a, Instr.sameBits 10000 (kv a) (kv a) = true
  one : ∀ a, (kv a).oneCell' = true
  check : ∀ {P : Program} {t : TypeId} (e : Bool) (a : κ) (w : World), P.underlying t = some kd → (Instr.checkKey e 10000 t (kv a)).run P w = .ok () w
theorem keyS : KeyK Str .string (fun s => .string ⟨s.toArray⟩) where
  same a b := by
    have e : ((⟨a.toArray⟩ : ByteArray) == ⟨b.toArray⟩) = (a.toArray == b.toArray) := rfl
    show some ((⟨a.toArray⟩ : ByteArray) == ⟨b.toArray⟩) = _
    rw [e]
    congr 1
    by_cases h : a = b
    · subst h; simp
    · rw [decide_eq_false h, beq_eq_false_iff_ne]
      intro e
      exact h (by simpa using congrArg Array.toList e)
  bits a := by
    have e : ((⟨a.toArray⟩ : ByteArray) == ⟨a.toArray⟩) = (a.toArray == a.toArray) := rfl
    show ((⟨a.toArray⟩ : ByteArray) == ⟨a.toArray⟩) = true
    rw [e]; simp
  one a := rfl
  check e a w h := MapKept.run_checkKey (n := 9999) h (by simp [MapKept.IsKey]) e
section
variable {κ ν : Type} [DecidableEq κ] {kd : TypeDesc} {kv : κ → Value}
theorem findNow_eq (K : KeyK κ kd kv) (k : κ) : ∀ (m : List (κ × ν)) (es : List MapEntry) (i : Nat), es.map (·.key) = m.map (fun x => kv x.1) →
    (∃ j e, Instr.findNow kd (kv k) es i = some (some (i + j, e.val)) ∧ es[j]? = some e ∧ (∃ v, m[j]? = some (k, v) ∧ mget m k = some v) ∧ ∀ v', mput m k v' = m.set j (k, v')) ∨
    (Instr.findNow kd (kv k) es i = some none ∧ mget m k = none ∧ ∀ v', mput m k v' = m ++ [(k, v')])
  | [], [], i, _ => .inr ⟨rfl, rfl, fun _ => rfl⟩
  | [], e :: es, i, h => by simp at h
  | x :: m, [], i, h => by simp at h
  | (a, x) :: m, e :: es, i, h => by
    simp only [List.map_cons, List.cons.injEq] at h
    have hs := K.same k a
    rw [← h.1] at hs
    by_cases hk : k = a
    · subst hk
      rw [decide_eq_true rfl] at hs
      refine .inl ⟨0, e, ?_, rfl, ⟨x, rfl, by simp [mget]⟩, fun v' => by simp [mput]⟩
      simp only [Instr.findNow, hs, Nat.add_zero]
    · rw [decide_eq_false hk] at hs
      rcases findNow_eq K k m es (i + 1) h.2 with ⟨j, e', h1, h2, ⟨v, h3, h4⟩, h5⟩ | ⟨h1, h2, h3⟩
      · refine .inl ⟨j + 1, e', ?_, h2, ⟨v, h3, by simp [mget, hk, h4]⟩, fun v' => by simp [mput, hk, h5]⟩
        simp only [Instr.findNow, hs, h1]
        congr 3; omega
      · refine .inr ⟨?_, by simp [mget, hk, h2], fun v' => by simp [mput, hk, h3]⟩
        simp only [Instr.findNow, hs, h1]
end
section
variable {c : Ctx} {s : St} {d : Option Tmp} {ty : TypeId} {pos : String} {af : Array Edge} {g : Option (Nat × Bool)}
theorem CRel.pl_eq {O : Nat → Prop} {w : World} {u v : Value} (h : CRel O w (.pl u) v) : v = u := by
  generalize hx : AV.pl u = x at h
  cases h <;> cases hx
  rfl
theorem VRel.mp_inv {F : Nat → Prop} {β : Emb} {w : World} {v : Value} {b : Nat} (h : VRel F β w (.mp b) v) : ∃ p, β b = some p ∧ p.nil = false ∧ v = .map (some p.blk) := by
  cases h with
  | mp hp hn => exact ⟨_, hp, hn, rfl⟩
  | c h => cases h
theorem run_getMap {P : Program} {w : World} {r : Nat} {ms : Array MapEntry} {ck : Nat} (h : w.heap[r]? = some (.map ms ck)) : (getObj r).run P w = .ok (.map ms ck) w := by simp only [getObj, Sem.run, h]
theorem run_setMap {P : Program} {w : World} {r : Nat} {ms : Array MapEntry} {ck : Nat} {o : Obj} (h : w.heap[r]? = some (.map ms ck)) : (setObj r o).run P w = .ok () { w with heap := w.heap.setIfInBounds r o } := by simp only [setObj, Sem.run, h]
theorem e_makeMap {t : TypeId} {r : Option Operand} (hr : r = none) (hb : hget s.H (nm d) = none) (hd : dstOk c.N d = true) :
    EOpB c ⟨d, .makeMap t r, ty, pos, af, g⟩ s ⟨putT s.T d (.mp (nm d)), (nm d, .map []) :: s.H, s.M⟩ := by
  subst hr
  intro a w β hs
  let p : Place := ⟨w.heap.size, 0, 0, 0, false⟩
  have hs' := hs.newobj (w' := w.alloc (.map #[] 0)) hb p (.inr trivial) (fun _ => ⟨Nat.le_refl _, by simp [p]⟩) (But.alloc _ _) (o := .map [])
    ⟨rfl, #[], 0, heap_alloc_at w _, rfl, fun i x e hx => by simp at hx, fun i j e e' h => by simp at h⟩
  refine ⟨_, _, below_alloc _ _, .map (some w.heap.size), ?_, hs'.put hd (.mp (p := p) (by simp [upd]) rfl)⟩
  simp [execOp, Instr.makeMap]
theorem ent_keys {κ ν : Type} {kv : κ → Value} {ev : ν → AV} {O : Nat → Prop} {w : World} {m : List (κ × ν)} {ms : Array MapEntry} {ck : Nat} (hl : (m.map fun x => (AV.pl (kv x.1), ev x.2)).length = ms.size)
    (h : ∀ (i : Nat) (x : AV × AV) (e : MapEntry), (m.map fun x => (AV.pl (kv x.1), ev x.2))[i]? = some x → ms[i]? = some e → CRel O w x.1 e.key ∧ CRel O w x.2 e.val ∧ e.born < ck) : ms.toList.map (·.key) = m.map fun x => kv x.1 := by
  apply List.ext_getElem?
  intro i
  rw [List.getElem?_map, List.getElem?_map, Array.getElem?_toList]
  by_cases hi : i < m.length
  · have hi2 : i < ms.size := by rw [← hl]; simpa using hi
    rw [List.getElem?_eq_getElem hi, Array.getElem?_eq_getElem hi2]
    have := (h i (AV.pl (kv m[i].1), ev m[i].2) ms[i] (by simp [hi]) (Array.getElem?_eq_getElem hi2)).1
    simp only [Option.map_some]
    rw [CRel.pl_eq this]
  · rw [List.getElem?_eq_none (by omega), Array.getElem?_eq_none (by rw [← hl]; simpa using hi)]; rfl
section
variable {κ ν : Type} [DecidableEq κ] {kd : TypeDesc} {kv : κ → Value} {ev : ν → AV}
theorem map_put (K : KeyK κ kd kv) {t kt et : TypeId} {a : Act} {w : World} {β : Emb} {v1 v2 v3 : Value} {b : Nat} {m : List (κ × ν)} {k : κ} {v : ν} {ti ki : TI} (hs : SatB c s β a w) (ht : tget c.U t = some ti) (htd : ti.desc = .map kt et) (hkt : tget c.U kt = some ki) (hkd : ki.desc = kd)
    (hx : VRel c.F β w (.mp b) v1) (hb : hget s.H b = some (.map (m.map fun x => (AV.pl (kv x.1), ev x.2)))) (hy : v2 = kv k) (hv3 : CRel (off c.F β) w (ev v) v3) :
    ∃ w', (Instr.mapUpdate t v1 v2 v3).run c.P w = .ok () w' ∧ SatB c ⟨s.T, hset s.H b (.map ((mput m k v).map fun x => (AV.pl (kv x.1), ev x.2))), s.M⟩ β a w' := by
  subst hy
  have hu : c.P.underlying t = some (.map kt et) := (ty_under ht).trans (congrArg some htd)
  have huk : c.P.underlying kt = some kd := (ty_under hkt).trans (congrArg some hkd)
  obtain ⟨p, hp, hn, rfl⟩ := hx.mp_inv;obtain ⟨p', hp', hr⟩ := hs.heap.obj b _ hb
  rw [hp] at hp'; cases hp'
  obtain ⟨_, ms, ck, hheap, hlen, hent, hborn⟩ := hr
  have hlt : p.blk < w.heap.size := (Array.getElem?_eq_some_iff.1 hheap).1
  have hkeys := ent_keys hlen hent
  have hlen' : m.length = ms.size := by simpa using hlen
  have hO : ∀ b, off c.F β b → off c.F β b ∨ w.heap.size ≤ b := fun _ h => .inl h
  rcases findNow_eq K k m ms.toList 0 hkeys with ⟨j, e, h1, h2, ⟨v0, h3, h4⟩, h5⟩ | ⟨h1, h2, h5⟩
  · have hj : j < ms.size := by
      have := (List.getElem?_eq_some_iff.1 h2).1; simpa using this
    have hek : e.key = kv k := CRel.pl_eq (hent j (AV.pl (kv k), ev v0) e (by rw [List.getElem?_map, h3]; rfl) (by simpa using h2)).1
    have hbut := But.setObj w p.blk (.map (ms.modify j fun e => { e with key := kv k, val := v3 }) ck)
    have hw : ∀ q, q < w.heap.size → ¬ off c.F β q → ({ w with heap := w.heap.setIfInBounds p.blk (.map (ms.modify j fun e => { e with key := kv k, val := v3 }) ck) } : World).heap[q]? = w.heap[q]? := fun q hq hno => hbut.block q hq (fun e => hno (.inr ⟨b, p, hp, hn, e.symm⟩))
    refine ⟨_, ?_, hs.setobj hp hn hbut (o := .map ((mput m k v).map fun x => (AV.pl (kv x.1), ev x.2))) ⟨hn, ms.modify j fun e => { e with key := kv k, val := v3 }, ck, by simp [hlt], by rw [h5]; simpa using hlen', fun i x e' hx he' => ?_, fun i i' e1 e2 h1' h2' hb' => ?_⟩⟩
    · have hge : ms[j]? = some e := by simpa using h2
      simp [Instr.mapUpdate, run_underlying hu, run_getMap hheap, K.check _ _ _ huk, Instr.findKey, run_underlying huk, h1, hge, hek, Instr.keyThatStays, K.bits, run_setMap hheap, Result.andThen]
    · rw [h5, List.getElem?_map] at hx
      rw [Array.getElem?_modify] at he'
      by_cases hij : j = i
      · subst hij
        rw [List.getElem?_set_self (by omega)] at hx
        simp only [Option.map_some, Option.some.injEq] at hx
        subst hx
        have hge : ms[j]? = some e := by simpa using h2
        rw [if_pos rfl, hge] at he'
        simp only [Option.map_some, Option.some.injEq] at he'
        subst he'
        exact ⟨.pl _, hv3.mono hbut.size hO hw, (hent j (AV.pl (kv k), ev v0) e (by rw [List.getElem?_map, h3]; rfl) hge).2.2⟩
      · rw [List.getElem?_set_ne hij] at hx
        rw [if_neg hij] at he'
        obtain ⟨q1, q2, q3⟩ := hent i x e' (by rw [List.getElem?_map]; exact hx) he';exact ⟨q1.mono hbut.size hO hw, q2.mono hbut.size hO hw, q3⟩
    · have key : ∀ {i : Nat} {e' : MapEntry}, (ms.modify j fun e => { e with key := kv k, val := v3 })[i]? = some e' → ∃ e0, ms[i]? = some e0 ∧ e0.born = e'.born := fun {i e'} h => by
        rw [Array.getElem?_modify] at h
        by_cases hij : j = i
        · rw [if_pos hij] at h
          obtain ⟨e0, h0, rfl⟩ := Option.map_eq_some_iff.1 h;exact ⟨e0, h0, rfl⟩
        · rw [if_neg hij] at h; exact ⟨e', h, rfl⟩
      obtain ⟨a1, b1, c1⟩ := key h1';obtain ⟨a2, b2, c2⟩ := key h2';exact hborn i i' a1 a2 b1 b2 (by rw [c1, c2]; exact hb')
  · have hbut := But.setObj w p.blk (.map (ms.push { key := kv k, val := v3, born := ck }) (ck + 1))
    have hw : ∀ q, q < w.heap.size → ¬ off c.F β q → ({ w with heap := w.heap.setIfInBounds p.blk (.map (ms.push { key := kv k, val := v3, born := ck }) (ck + 1)) } : World).heap[q]? = w.heap[q]? := fun q hq hno => hbut.block q hq (fun e => hno (.inr ⟨b, p, hp, hn, e.symm⟩))
    have hbn : ∀ {i : Nat} {e' : MapEntry}, ms[i]? = some e' → e'.born < ck := fun {i e'} h => by
      have hi : i < m.length := by rw [hlen']; exact (Array.getElem?_eq_some_iff.1 h).1
      exact (hent i (AV.pl (kv m[i].1), ev m[i].2) e' (by simp [hi]) h).2.2
    refine ⟨_, ?_, hs.setobj hp hn hbut (o := .map ((mput m k v).map fun x => (AV.pl (kv x.1), ev x.2))) ⟨hn, ms.push { key := kv k, val := v3, born := ck }, ck + 1, by simp [hlt], by rw [h5]; simp [hlen'], fun i x e' hx he' => ?_, fun i i' e1 e2 h1' h2' hb' => ?_⟩⟩
    · simp [Instr.mapUpdate, run_underlying hu, run_getMap hheap, K.check _ _ _ huk, Instr.findKey, run_underlying huk, h1, run_setMap hheap, Result.andThen]
    · rw [h5, List.getElem?_map] at hx
      rw [Array.getElem?_push] at he'
      by_cases hi : i = ms.size
      · rw [if_pos hi] at he'
        simp only [Option.some.injEq] at he'
        subst he'
        rw [List.getElem?_append_right (by omega), show i - m.length = 0 by omega] at hx
        simp at hx
        subst hx
        exact ⟨.pl _, hv3.mono hbut.size hO hw, Nat.lt_succ_self _⟩
      · rw [if_neg hi] at he'
        have hlt2 : i < ms.size := (Array.getElem?_eq_some_iff.1 he').1
        rw [List.getElem?_append_left (by omega)] at hx
        obtain ⟨q1, q2, q3⟩ := hent i x e' (by rw [List.getElem?_map]; exact hx) he';exact ⟨q1.mono hbut.size hO hw, q2.mono hbut.size hO hw, Nat.lt_succ_of_lt q3⟩
    · rw [Array.getElem?_push] at h1' h2'
      by_cases hi : i = ms.size <;> by_cases hi' : i' = ms.size
      · omega
      · rw [if_pos hi] at h1'; rw [if_neg hi'] at h2'
        cases h1'
        have := hbn h2'
        simp only at hb'; omega
      · rw [if_neg hi] at h1'; rw [if_pos hi'] at h2'
        cases h2'
        have := hbn h1'
        simp only at hb'; omega
      · rw [if_neg hi] at h1'; rw [if_neg hi'] at h2'
        exact hborn i i' e1 e2 h1' h2' hb'
theorem e_mapUpdate (K : KeyK κ kd kv) {t kt et : TypeId} {x y z : Operand} {b : Nat} {m : List (κ × ν)} {k : κ} {v : ν} {ti ki : TI} (op : Op) (hop : op = .mapUpdate t x y z ∨ op = .insert t x y z) (ht : tget c.U t = some ti) (htd : ti.desc = .map kt et) (hkt : tget c.U kt = some ki) (hkd : ki.desc = kd)
    (hx : opv s.T x = some (.mp b)) (hb : hget s.H b = some (.map (m.map fun x => (AV.pl (kv x.1), ev x.2)))) (hy : opv s.T y = some (.pl (kv k))) (hz : opv s.T z = some (ev v)) (hcl : (ev v).closed = true) (hd : d = none) :
    EOp c ⟨d, op, ty, pos, af, g⟩ s ⟨s.T, hset s.H b (.map ((mput m k v).map fun x => (AV.pl (kv x.1), ev x.2))), s.M⟩ := by
  subst hd
  intro a w β hs
  have hv3 : CRel (off c.F β) w (ev v) (a.eval z) := (hs.op hz).closed hcl
  obtain ⟨w', h1, h2⟩ := map_put K hs ht htd hkt hkd (hs.op hx) hb (hs.pl hy) hv3
  rcases hop with rfl | rfl
  · exact ⟨w', β, .inr ⟨by simp [execOp, h1, Result.andThen], h2⟩⟩
  · exact ⟨w', β, .inr ⟨by simp [execOp, h1, Result.andThen], h2⟩⟩
end
end
abbrev kS : Str → Value := fun s => .string ⟨s.toArray⟩
abbrev MP {κ ν : Type} (kv : κ → Value) (ev : ν → AV) (m : List (κ × ν)) : List (AV × AV) := m.map fun x => (AV.pl (kv x.1), ev x.2)
section
variable {c : Ctx} {Q : Exit → Act → World → Prop} {T : List (Nat × AV)} {H : List (Nat × AObj)} {M : List Nat} {ops : Array Oper} {rest : List Oper} {d : Tmp} {ty : TypeId} {pos : String} {af : Array Edge}
theorem l_mmake {t : TypeId} (hn : RunL c ops Q rest ⟨(d, .mp (nm (some d))) :: T, (nm (some d), .map []) :: H, M⟩) (hb : hget H (nm (some d)) = none := by exact rfl) (hdo : dstOk c.N (some d) = true := by exact rfl) :
    RunL c ops Q (⟨some d, .makeMap t none, ty, pos, af, none⟩ :: rest) ⟨T, H, M⟩ := RunL_e (s := ⟨T, H, M⟩) (e_makeMap rfl hb hdo).e rfl hn
theorem l_mput {κ ν : Type} [DecidableEq κ] {kd : TypeDesc} {kv : κ → Value} (K : KeyK κ kd kv) {ev : ν → AV} {m : List (κ × ν)} {k : κ} (v : ν) {t kt et : TypeId} {x y z : Operand} {b : Nat} {ti ki : TI} (hn : RunL c ops Q rest ⟨T, hset H b (.map (MP kv ev (mput m k v))), M⟩) (ht : tget c.U t = some ti := by exact rfl) (htd : ti.desc = .map kt et := by exact rfl) (hkt : tget c.U kt = some ki := by exact rfl) (hkd : ki.desc = kd := by exact rfl)
    (hx : opv T x = some (.mp b) := by exact rfl) (hb : hget H b = some (.map (MP kv ev m)) := by exact rfl) (hy : opv T y = some (.pl (kv k)) := by exact rfl) (hz : opv T z = some (ev v) := by exact rfl) (hcl : (ev v).closed = true := by exact rfl) :
    RunL c ops Q (⟨none, .insert t x y z, ty, pos, af, none⟩ :: rest) ⟨T, H, M⟩ := RunL_e (s := ⟨T, H, M⟩) (e_mapUpdate K _ (.inr rfl) ht htd hkt hkd hx hb hy hz hcl rfl) rfl hn
theorem l_mupd {κ ν : Type} [DecidableEq κ] {kd : TypeDesc} {kv : κ → Value} (K : KeyK κ kd kv) {ev : ν → AV} {m : List (κ × ν)} {k : κ} (v : ν) {t kt et : TypeId} {x y z : Operand} {b : Nat} {ti ki : TI} (hn : RunL c ops Q rest ⟨T, hset H b (.map (MP kv ev (mput m k v))), M⟩) (ht : tget c.U t = some ti := by exact rfl) (htd : ti.desc = .map kt et := by exact rfl) (hkt : tget c.U kt = some ki := by exact rfl) (hkd : ki.desc = kd := by exact rfl)
    (hx : opv T x = some (.mp b) := by exact rfl) (hb : hget H b = some (.map (MP kv ev m)) := by exact rfl) (hy : opv T y = some (.pl (kv k)) := by exact rfl) (hz : opv T z = some (ev v) := by exact rfl) (hcl : (ev v).closed = true := by exact rfl) :
    RunL c ops Q (⟨none, .mapUpdate t x y z, ty, pos, af, none⟩ :: rest) ⟨T, H, M⟩ := RunL_e (s := ⟨T, H, M⟩) (e_mapUpdate K _ (.inl rfl) ht htd hkt hkd hx hb hy hz hcl rfl) rfl hn
end
end Go.Abs
set_option linter.unusedVariables false
set_option linter.unusedSimpArgs false
set_option linter.unusedSectionVars false
namespace Go.Abs
open Go Go.RowKit Go.Proofs W
variable [GTab]
theorem enc_eq (r : Int) : Utf8.encode r = ⟨(enc r).toArray⟩ := by
  have hv : Utf8.valid r = true ↔ (0 ≤ r ∧ W.validRune r.toNat = true) := by
    unfold Utf8.valid W.validRune
    simp only [Bool.and_eq_true, Bool.or_eq_true, decide_eq_true_eq]
    omega
  have hc : (if Utf8.valid r = true then r.toNat else Utf8.runeError) = (if 0 ≤ r ∧ W.validRune r.toNat = true then r.toNat else 0xFFFD) := by
    by_cases h : Utf8.valid r = true
    · rw [if_pos h, if_pos (hv.1 h)]
    · rw [if_neg h, if_neg (fun e => h (hv.2 e))]; rfl
  unfold Utf8.encode enc
  simp only [hc]
  generalize (if 0 ≤ r ∧ W.validRune r.toNat = true then r.toNat else 0xFFFD) = q
  by_cases h1 : q < 128
  · simp [h1]
  · by_cases h2 : q < 2048
    · simp [h1, h2]
    · by_cases h3 : q < 65536
      · simp [h1, h2, h3]
      · simp [h1, h2, h3]
section
variable {c : Ctx} {s : St} {d : Option Tmp} {ty : TypeId} {pos : String} {af : Array Edge} {g : Option (Nat × Bool)}
theorem q_istr {src dst : TypeId} {x : Operand} {k k' : IntKind} {n : Int} {t1 t2 : TI} (h1 : tget c.U src = some t1) (hd1 : t1.desc = .int k) (h2 : tget c.U dst = some t2) (hd2 : t2.desc = .string) (hx : opv s.T x = some (.pl (.int k' n))) : QOp c ⟨d, .convert src dst x, ty, pos, af, g⟩ s (.pl (.string ⟨(enc n).toArray⟩)) := by
  intro a w β hs
  have hu1 : c.P.underlying src = some (.int k) := (ty_under h1).trans (congrArg some hd1)
  have hu2 : c.P.underlying dst = some .string := (ty_under h2).trans (congrArg some hd2)
  refine ⟨_, .c (.pl _), fun w' _ => ?_⟩
  simp [execOp, convert, hs.pl hx, run_underlying hu1, run_underlying hu2, Conv.intToString, enc_eq, Result.andThen]
end
section
variable {c : Ctx} {Q : Exit → Act → World → Prop} {T : List (Nat × AV)} {H : List (Nat × AObj)} {M : List Nat} {ops : Array Oper} {rest : List Oper} {d : Tmp} {ty : TypeId} {pos : String} {af : Array Edge}
theorem l_istr {src dst : TypeId} {x : Operand} {k k' : IntKind} {n : Int} {t1 t2 : TI} (hn : RunL c ops Q rest ⟨(d, S (enc n)) :: T, H, M⟩) (h1 : tget c.U src = some t1 := by exact rfl) (hd1 : t1.desc = .int k := by exact rfl) (h2 : tget c.U dst = some t2 := by exact rfl) (hd2 : t2.desc = .string := by exact rfl) (hx : opv T x = some (.pl (.int k' n)) := by exact rfl) (hdo : dstOk c.N (some d) = true := by exact rfl) :
    RunL c ops Q (⟨some d, .convert src dst x, ty, pos, af, none⟩ :: rest) ⟨T, H, M⟩ := RunL_q (s := ⟨T, H, M⟩) (q_istr h1 hd1 h2 hd2 hx) rfl hdo hn
end
end Go.Abs
set_option linter.unusedVariables false
set_option linter.unusedSimpArgs false
set_option linter.unusedSectionVars false
namespace Go.Abs
open Go Go.RowKit Go.Proofs W
variable [GTab]
section
variable {c : Ctx} {s : St} {Q : Exit → Act → World → Prop} {T : List (Nat × AV)} {H : List (Nat × AObj)} {M : List Nat} {code : Code} {ops : Array Oper} {rest : List Oper} {hot : List Nat} {l : Plan} {i : Nat} {d : Tmp} {ty : TypeId} {pos : String} {af : Array Edge} {e : Exit} {g : Option (Nat × Bool)} {d' : Option Tmp}
section
variable {κ ν : Type} [DecidableEq κ] {kd : TypeDesc} {kv : κ → Value} {ev : ν → AV}
def vgetR : Bool → AV → Bool → AV
  | true, x, b => .tup [x, .pl (.bool b)]
  | false, x, _ => x
theorem q_lookupG (ok : Bool) (K : KeyK κ kd kv) {t kt et : TypeId} {x y : Operand} {b : Nat} {m : List (κ × ν)} {k : κ} {z : ν} {ti ki ei : TI} (ht : tget c.U t = some ti) (htd : ti.desc = .map kt et) (hkt : tget c.U kt = some ki) (hkd : ki.desc = kd) (het : tget c.U et = some ei)
    (hx : opv s.T x = some (.mp b)) (hb : hget s.H b = some (.map (m.map fun x => (AV.pl (kv x.1), ev x.2)))) (hy : opv s.T y = some (.pl (kv k))) (hz : ofVal ei.zero = ev z) :
    QOp c ⟨d', .lookup t x y ok, ty, pos, af, g⟩ s (vgetR ok (ev ((mget m k).getD z)) (mget m k).isSome) := by
  intro a w β hs
  have hu : c.P.underlying t = some (.map kt et) := (ty_under ht).trans (congrArg some htd)
  have huk : c.P.underlying kt = some kd := (ty_under hkt).trans (congrArg some hkd)
  obtain ⟨i, hi, hi1, hi2, hi3⟩ := ty_info het;obtain ⟨p, hp, hn, hv⟩ := (hs.op hx).mp_inv;obtain ⟨p', hp', hr⟩ := hs.heap.obj b _ hb
  rw [hp] at hp'; cases hp'
  obtain ⟨_, ms, ck, hheap, hlen, hent, _⟩ := hr
  have hlt : p.blk < w.heap.size := (Array.getElem?_eq_some_iff.1 hheap).1
  have hkeys := ent_keys hlen hent
  have tupR : ∀ {u : Value} {q : Bool}, VRel c.F β w (ev ((mget m k).getD z)) u → (mget m k).isSome = q → VRel c.F β w (vgetR ok (ev ((mget m k).getD z)) (mget m k).isSome) (if ok then .tuple #[u, .bool q] else u) := fun {u q} hu hq => by
    cases ok with
    | false => exact hu
    | true =>
    refine .tup rfl fun i y v hy hv => ?_
    match i, hy, hv with
    | 0, hy, hv => simp at hy hv; subst hy hv; exact hu
    | 1, hy, hv => simp at hy hv; subst hy hv; rw [hq]; exact .c (.pl _)
    | i + 2, hy, hv => simp at hy
  rcases findNow_eq K k m ms.toList 0 hkeys with ⟨j, e, h1, h2, ⟨v, h3, h4⟩, _⟩ | ⟨h1, h2, _⟩
  · refine ⟨if ok then .tuple #[e.val, .bool true] else e.val, tupR ?_ (by rw [h4]; rfl), fun w' hbl => ?_⟩
    · rw [h4]
      exact .c (hent j (AV.pl (kv k), ev v) e (by rw [List.getElem?_map, h3]; rfl) (by simpa using h2)).2.1
    · have hw' : w'.heap[p.blk]? = some (.map ms ck) := by rw [hbl.block p.blk hlt]; exact hheap
      simp [execOp, Instr.lookup, hv, hs.pl hy, run_underlying hu, run_getMap hw', K.check _ _ _ huk, Instr.findKey, run_underlying huk, h1, Result.andThen]
  · refine ⟨if ok then .tuple #[ei.zero, .bool false] else ei.zero, tupR ?_ (by rw [h2]; rfl), fun w' hbl => ?_⟩
    · rw [h2]
      show VRel c.F β w (ev z) ei.zero
      rw [← hz]
      exact .c (CRel.ofVal _ _ _)
    · have hw' : w'.heap[p.blk]? = some (.map ms ck) := by rw [hbl.block p.blk hlt]; exact hheap
      simp [execOp, Instr.lookup, hv, hs.pl hy, run_underlying hu, run_getMap hw', K.check _ _ _ huk, Instr.findKey, run_underlying huk, h1, zeroValue, typeInfo, hi, hi3, Result.andThen]
theorem l_mget1 (K : KeyK κ kd kv) {m : List (κ × ν)} {k : κ} (z : ν) {t kt et : TypeId} {x y : Operand} {b : Nat} {ti ki ei : TI} (hn : RunL c ops Q rest ⟨(d, ev ((mget m k).getD z)) :: T, H, M⟩) (ht : tget c.U t = some ti := by exact rfl) (htd : ti.desc = .map kt et := by exact rfl) (hkt : tget c.U kt = some ki := by exact rfl) (hkd : ki.desc = kd := by exact rfl) (het : tget c.U et = some ei := by exact rfl)
    (hx : opv T x = some (.mp b) := by exact rfl) (hb : hget H b = some (.map (MP kv ev m)) := by exact rfl) (hy : opv T y = some (.pl (kv k)) := by exact rfl) (hz : ofVal ei.zero = ev z := by exact rfl) (hdo : dstOk c.N (some d) = true := by exact rfl) :
    RunL c ops Q (⟨some d, .lookup t x y false, ty, pos, af, none⟩ :: rest) ⟨T, H, M⟩ := RunL_q (s := ⟨T, H, M⟩) (q_lookupG false K ht htd hkt hkd het hx hb hy hz) rfl hdo hn
end
end
end Go.Abs
set_option linter.unusedVariables false
set_option linter.unusedSimpArgs false
set_option linter.unusedSectionVars false
namespace Go.Abs
open Go Go.RowKit Go.Proofs W
variable [GTab]
section
variable {c : Ctx} {s : St} {Q : Exit → Act → World → Prop} {T : List (Nat × AV)} {H : List (Nat × AObj)} {M : List Nat} {ops : Array Oper} {rest : List Oper} {d d2 : Tmp} {ty ty2 : TypeId} {pos pos2 : String} {af af2 : Array Edge}
theorem run_markOwn {P : Program} (w : World) (C : Array Value) (e src : TypeId) (he : P.underlying e = some (.int .u8)) (hs : P.underlying src = some (.slice e)) (n m : Nat) :
    (convert src src (.slice (some ⟨w.heap.size, 0, none⟩) n m)).run P (w.alloc (.cells C e (0, 0))) = .ok (.slice (some ⟨w.heap.size, 0, none⟩) n m) (w.alloc (.cells C e (C.size, C.size + 1))) := by
  have hsh : (w.alloc (.cells C e (0, 0))).shape? w.heap.size = some (e, C.size) := by
    have : (w.alloc (.cells C e (0, 0))).heap[w.heap.size]? = some (.cells C e (0, 0)) := heap_alloc_at _ _
    unfold World.shape?
    rw [this]
  have hfr : (w.alloc (.cells C e (0, 0))).freeze ⟨w.heap.size, C.size, none⟩ 1 = w.alloc (.cells C e (C.size, C.size + 1)) := by
    have hm : ∀ (a : Array Obj) (x : Obj) (f : Obj → Obj), (a.push x).modify a.size f = a.push (f x) := by
      intro a x f
      apply Array.ext
      · simp
      · intro i h1 h2
        rw [Array.getElem_modify, Array.getElem_push, Array.getElem_push]
        simp only [Array.size_push] at h2
        by_cases hi : i < a.size
        · rw [if_neg (by omega), dif_pos hi, dif_pos hi]
        · rw [if_pos (by omega), dif_neg hi, dif_neg hi]
    unfold World.freeze World.alloc
    simp [hm]
  simp [convert, run_underlying hs, run_underlying he, markStringish, shape, freeze, Sem.run, hsh, hfr, Result.andThen]
theorem l_litb (l : Str) {t : TypeId} {n : Nat} {parts : Array (Nat × Operand)} {ti ei : TI} {e : TypeId}
    (hnext : RunL c ops Q rest ⟨(d2, .sl (nm (some d)) 0 l.length) :: (d, .sl (nm (some d)) 0 l.length) :: T, (nm (some d), .row e 1 0 (F cU l)) :: H, M⟩)
    (ht : tget c.U t = some ti := by exact rfl) (htd : ti.desc = .slice e := by exact rfl) (he : tget c.U e = some ei := by exact rfl) (hed : ei.desc = .int .u8 := by exact rfl) (hk : ei.size = 1 := by exact rfl) (hzs : ei.zero.cells.size = 1 := by exact rfl)
    (hparts : seqB 0 parts.toList = true := by exact rfl) (hn : parts.toList.length = n := by exact rfl) (hl : l.length = n := by exact rfl) (hn0 : Nat.blt 0 n = true := by exact rfl) (hx : opvL T (parts.toList.map (·.2)) = some (F cU l) := by exact rfl) (hview : GTab.view e = true := by exact rfl) (hlim : Nat.ble n (2 ^ 24) = true := by exact rfl)
    (hb : hget H (nm (some d)) = none := by exact rfl) (hdo : dstOk c.N (some d) = true := by exact rfl) (hdo2 : dstOk c.N (some d2) = true := by exact rfl) :
    RunL c ops Q (⟨some d, .buildSlice t n parts, ty, pos, af, none⟩ :: ⟨some d2, .convert t t (.tmp d), ty2, pos2, af2, none⟩ :: rest) ⟨T, H, M⟩ := by
  rintro a w ⟨β, hs⟩
  have hu : c.P.underlying t = some (.slice e) := (ty_under ht).trans (congrArg some htd)
  have hue : c.P.underlying e = some (.int .u8) := (ty_under he).trans (congrArg some hed)
  have hA := opvL_get hs hx
  have hcl : cellsL (F cU l) = F cU l := by
    clear hx hA hnext hl
    induction l with
    | nil => rfl
    | cons x r ih => exact congrArg (cU x ++ ·) ih
  have hfit : fitAll 1 (F cU l) = true := by
    clear hx hA hnext hl hcl
    induction l with
    | nil => rfl
    | cons x r ih => exact ih
  obtain ⟨h1, h2, h3⟩ := cellsL_spec hfit hA
  rw [hcl] at h2 h3
  generalize hxs : parts.toList.map (·.2) = xs at *
  have hxl : xs.length = n := by rw [← hxs]; simpa using hn
  have hlen : (xs.map a.eval).length = n := by simpa using hxl
  have hnp : 0 < n := Nat.le_of_ble_eq_true hn0
  have hrun := run_buildSlice (P := c.P) (w := w) (t := t) (vs := xs.map a.eval) (by rw [ty_desc ht, htd]) (by rw [ty_size he, hk]) (ty_zero he w) hzs (Nat.zero_lt_one) h1 (by rw [hlen, Nat.mul_one]; exact Nat.le_of_ble_eq_true hlim) (by intro h; rw [h] at hlen; simp at hlen; omega)
  rw [hlen] at hrun
  generalize hC : ((xs.map a.eval).flatMap (·.cells.toList)).toArray = C at hrun
  have hCs : C.size = n := by
    rw [← hC]
    have : ∀ vs : List Value, (∀ u ∈ vs, u.cells.size = 1) → (vs.flatMap (·.cells.toList)).length = vs.length := by
      intro vs
      induction vs with
      | nil => intro _; rfl
      | cons v r ih => intro h; rw [List.flatMap_cons, List.length_append, ih (fun u hu => h u (by simp [hu])), Array.length_toList, h v (by simp), List.length_cons]; omega
    simpa [hlen] using this _ h1
  have hlF : (F cU l).length = l.length := by
    clear hx hA hnext hl hcl hfit h2 h3
    induction l with
    | nil => rfl
    | cons x r ih => exact congrArg (· + 1) ih
  let p : Place := ⟨w.heap.size, 0, C.size, 1, false⟩
  have hro : ORel c.F (upd β (nm (some d)) p) (w.alloc (.cells C e (C.size, C.size + 1))) p (.row e 1 0 (F cU l)) := by
    refine ⟨rfl, (fun h => by cases h), fun _ => ⟨C, _, ⟨heap_alloc_at _ _, fun hv => by rw [hview] at hv; cases hv⟩, rfl, by rw [hlF, hl, hCs]; show 0 + n ≤ n; omega, fun i y hy => ?_, fun o ho h1 h2 => absurd ho (Nat.not_lt.2 h1)⟩⟩;obtain ⟨u, hu, hr, h⟩ := h3 i y hy
    have hy' : ∃ b, y = U b := by
      have : ∀ (l : Str) (i : Nat), (F cU l)[i]? = some y → ∃ b, y = U b := by
        intro l
        induction l with
        | nil => intro i h; simp [F] at h
        | cons x r ih =>
          intro i h
          cases i with
          | zero => exact ⟨x, by simpa [F, cU] using h.symm⟩
          | succ i => exact ih i (by simpa [F, cU] using h)
      exact this l i hy
    obtain ⟨b, rfl⟩ := hy';refine ⟨u, ?_, ?_, h⟩
    · show C[0 + i]? = some u
      rw [Nat.zero_add, ← hC]; simpa using hu
    · rw [CRel.pl_eq hr]
      exact .pl _
  have hs2 := hs.newobj (w' := w.alloc _) hb p (.inl rfl) (fun _ => ⟨Nat.le_refl _, (by show w.heap.size < (w.heap.push _).size; rw [Array.size_push]; exact Nat.lt_succ_self _)⟩) (But.alloc _ _) hro
  have hvr : ∀ w', VRel c.F (upd β (nm (some d)) p) w' (.sl (nm (some d)) 0 l.length) (.slice (some ⟨w.heap.size, 0, none⟩) n n) := fun w' => by
    rw [hl]
    exact .sl (p := p) (upd_same _ _ _) rfl (Nat.le_refl _) (by show 0 + 0 + n * 1 ≤ C.size; omega)
  have hs3 := (hs2.put hdo (hvr _)).put hdo2 (hvr _)
  have hp : parts.map (fun (i, x) => (i, a.eval x)) = (enumV 0 (xs.map a.eval)).toArray := by
    rw [← enumO_map, ← hxs, ← enumO_of _ _ hparts]
    apply Array.toList_inj.1
    simp
  refine wpList_plain rfl fun K hK => ?_;unfold Oper.wp
  have hr1 : (execOp a.eval ⟨some d, .buildSlice t n parts, ty, pos, af, none⟩).run c.P w = .ok (.value (.slice (some ⟨w.heap.size, 0, none⟩) n n)) (w.alloc (.cells C e (0, 0))) := by
    simp only [execOp, hp]
    simp [hrun]
  rw [hr1, Oper.upon_value]
  refine hK _ _ (wpList_plain rfl fun K2 hK2 => ?_);unfold Oper.wp
  have hev : (a.put (some d) (.slice (some ⟨w.heap.size, 0, none⟩) n n)).eval (.tmp d) = .slice (some ⟨w.heap.size, 0, none⟩) n n := by
    have hlt : d < a.tmps.size := by rw [hs.size]; simpa [dstOk, Nat.blt_eq] using hdo
    simp [Act.eval, Act.put, hlt]
  have hr2 : (execOp (a.put (some d) (.slice (some ⟨w.heap.size, 0, none⟩) n n)).eval ⟨some d2, .convert t t (.tmp d), ty2, pos2, af2, none⟩).run c.P (w.alloc (.cells C e (0, 0))) = .ok (.value (.slice (some ⟨w.heap.size, 0, none⟩) n n)) (w.alloc (.cells C e (C.size, C.size + 1))) := by
    simp only [execOp, hev, Sem.run_bind, run_markOwn w C e t hue hu, Result.andThen_ok, Sem.run_pure]
  rw [hr2, Oper.upon_value]
  exact hK2 _ _ (hnext _ _ ⟨_, hs3⟩)
end
section
variable {c : Ctx} {s : St} {d : Option Tmp} {ty : TypeId} {pos : String} {af : Array Edge} {g : Option (Nat × Bool)}
end
section
variable {c : Ctx} {Q : Exit → Act → World → Prop} {T : List (Nat × AV)} {H : List (Nat × AObj)} {M : List Nat} {ops : Array Oper} {rest : List Oper} {d : Tmp} {ty : TypeId} {pos : String} {af : Array Edge}
end
end Go.Abs
set_option linter.unusedVariables false
set_option linter.unusedSimpArgs false
set_option linter.unusedSectionVars false
namespace Go.Abs
open Go Go.RowKit Go.Proofs W
variable [GTab]
section
variable {c : Ctx} {s : St} {d : Option Tmp} {ty : TypeId} {pos : String} {af : Array Edge} {g : Option (Nat × Bool)}
theorem shape_of {w : World} {blk : Nat} {te : TypeId} {cv : Array Value} {fr : Nat × Nat} (h : CellsAt w blk te cv fr) : w.shape? blk = some (te, cv.size) := by
  replace h := h.1
  unfold World.shape?
  rw [h]
theorem q_tounsafe {src dst u : TypeId} {x : Operand} {b o : Nat} {cs : List AV} {tb : TypeId} {ts td tu : TI} (h1 : tget c.U src = some ts) (hd1 : ts.desc = .pointer u) (h2 : tget c.U dst = some td) (hd2 : td.desc = .unsafePointer) (h3 : tget c.U u = some tu) (hsz : Nat.blt 0 tu.size = true)
    (hx : opv s.T x = some (.ptr b o)) (hb : hget s.H b = some (.box tb cs)) (ho : Nat.blt o cs.length = true) : QOp c ⟨d, .convert src dst x, ty, pos, af, g⟩ s (.ptr b o) := by
  intro a w β hs
  have hu1 : c.P.underlying src = some (.pointer u) := (ty_under h1).trans (congrArg some hd1)
  have hu2 : c.P.underlying dst = some .unsafePointer := (ty_under h2).trans (congrArg some hd2)
  obtain ⟨i, hi, hi1, _⟩ := ty_info h3;obtain ⟨p, hp, hn, hv⟩ := (hs.op hx).ptr_inv;obtain ⟨p', hp', hr⟩ := hs.heap.obj b _ hb
  rw [hp] at hp'; cases hp'
  obtain ⟨_, cv, fr, hcv, ⟨hst, hlen⟩, _⟩ := hr
  have ho := Nat.le_of_ble_eq_true ho
  have hsz := Nat.le_of_ble_eq_true hsz
  refine ⟨_, hs.op hx, fun w' hb' => ?_⟩
  have hcv' : CellsAt w' p.blk tb cv fr := ⟨(hb'.block p.blk (hs.heap.blk_lt hp hn)).trans hcv.1, hcv.2⟩
  have hrun := Lib.run_to_unsafe (P := c.P) w' (src := src) (dst := dst) ⟨p.blk, p.st + o, none⟩ hu1 hu2 hi (by omega) (shape_of hcv') (by show p.st + o < cv.size; omega)
  rw [hv]
  simp [execOp, hv, hrun]
theorem q_fromunsafe {src dst u : TypeId} {x : Operand} {b o : Nat} {cs : List AV} {tb : TypeId} {ts td tu : TI} (h1 : tget c.U src = some ts) (hd1 : ts.desc = .unsafePointer) (h2 : tget c.U dst = some td) (hd2 : td.desc = .pointer u) (h3 : tget c.U u = some tu)
    (hx : opv s.T x = some (.ptr b o)) (hb : hget s.H b = some (.box tb cs)) (hlies : liesAt c.P c.P.depth tb (cs.length / c.P.cellsOf tb) o u 1 = true) : QOp c ⟨d, .convert src dst x, ty, pos, af, g⟩ s (.ptr b o) := by
  intro a w β hs
  have hu1 : c.P.underlying src = some .unsafePointer := (ty_under h1).trans (congrArg some hd1)
  have hu2 : c.P.underlying dst = some (.pointer u) := (ty_under h2).trans (congrArg some hd2)
  obtain ⟨i, hi, hi1, _⟩ := ty_info h3;obtain ⟨p, hp, hn, hv⟩ := (hs.op hx).ptr_inv;obtain ⟨p', hp', hr⟩ := hs.heap.obj b _ hb
  rw [hp] at hp'; cases hp'
  obtain ⟨_, cv, fr, hcv, ⟨hst, hlen⟩, _⟩ := hr;refine ⟨_, hs.op hx, fun w' hb' => ?_⟩
  have hcv' : CellsAt w' p.blk tb cv fr := ⟨(hb'.block p.blk (hs.heap.blk_lt hp hn)).trans hcv.1, hcv.2⟩
  have hrun := Lib.run_from_unsafe (P := c.P) w' (src := src) (dst := dst) ⟨p.blk, p.st + o, none⟩ hu1 hu2 hi (shape_of hcv') (by rw [hst, Nat.zero_add, ← hlen]; exact hlies)
  rw [hv]
  simp [execOp, hv, hrun]
theorem q_neqself {t t' u : TypeId} {x y : Operand} {b o : Nat} {ti tu : TI} (ht : tget c.U t = some ti) (htd : ti.desc = .pointer u) (hu : tget c.U u = some tu) (hx : opv s.T x = some (.ptr b o)) (hy : opv s.T y = some (.ptr b o)) :
    QOp c ⟨d, .binOp .neq t x y t', ty, pos, af, g⟩ s (.pl (.bool false)) := by
  intro a w β hs
  have hu1 : c.P.underlying t = some (.pointer u) := (ty_under ht).trans (congrArg some htd)
  obtain ⟨i, hi, _⟩ := ty_info hu;obtain ⟨p, hp, hn, hv⟩ := (hs.op hx).ptr_inv;obtain ⟨p', hp', _, hv'⟩ := (hs.op hy).ptr_inv
  rw [hp] at hp'; cases hp'
  refine ⟨_, .c (.pl _), fun w' _ => ?_⟩
  simp [execOp, eqGuard, hv, hv', Lib.run_neq_ptr_same (P := c.P) w' ⟨p.blk, p.st + o, none⟩ hu1 hi]
theorem noEscape_spec {P : Program} {k : FuncId} {fn : Func} (hf : P.funcs[k]? = some fn) (x : AV) (hname : (fn.name == "runtime.NumGoroutine") = false := by kernel_rfl) (hb : fn.body.isNone = true := by kernel_rfl) (hn : Extern.findNext fn = none := by kernel_rfl)
    (hE : Extern.find fn = some Extern.AbiNoEscape.same := by kernel_rfl) : NSpec P k [x] x := by
  intro F β w vs hA
  obtain ⟨hl, h⟩ := hA
  match vs, hl, h with
  | [v], _, h =>
    refine ⟨v, h 0 _ _ rfl rfl, fun w' => ?_⟩
    rw [run_callFunc_extern hf hname hb hn hE, Lib.run_noEscape (P := P) w' v]
    simp [Result.andThen]
end
theorem liesAt_bytes' {P : Program} {e : TypeId} (hc : P.cellsOf e = 1) (count off n : Nat) (hn : off + n ≤ count) : liesAt P P.depth e count off e n = true := by
  have hd : P.depth = (2 * (P.types.size + Made.depth) + 1) + 1 := rfl
  rw [hd]
  simp only [liesAt, Bool.or_eq_true]
  left
  rw [hd]
  simp [rowAt, hc, hn, sameLayout, Nat.mod_one]
theorem run_ustr {P : Program} {w : World} (pt it ty e : TypeId) (hp : P.underlying pt = some (.pointer e)) (hc : P.cellsOf e = 1) (g o cells : Nat) (hsh : w.shape? g = some (e, cells)) (l : List UInt8) (h0 : l ≠ []) (hn : o + l.length ≤ cells) (h63 : l.length ≤ 9223372036854775807)
    (hcell : ∀ j x, l[j]? = some x → w.cell? ((⟨g, o, none⟩ : Addr).add j) = some (.int .u8 x.toNat)) :
    (Builtin.unsafeString_ #[pt, it] ty #[.pointer (some ⟨g, o, none⟩), .int .i64 l.length]).run P w = .ok (.string ⟨l.toArray⟩) (w.freeze ⟨g, o, none⟩ l.length) := by
  have hl : l.length ≠ 0 := by simpa using h0
  have hlb := Lib.run_loadBytes (P := P) w l ⟨g, o, none⟩ .empty hcell
  have hlies := liesAt_bytes' (P := P) hc (cells / P.cellsOf e) o l.length (by rw [hc]; simpa using hn)
  have h63' : ¬ (9223372036854775807 : Int) < (l.length : Int) := by omega
  have hdef : Builtin.unsafeString_ #[pt, it] ty #[.pointer (some ⟨g, o, none⟩), .int .i64 l.length] =
      (do
        let n ← asInt (.int .i64 l.length)
        if n < 0 then runtimePanic (.error "unsafe.String: len out of range")
        if n > IntKind.i64.max then unsupported (.unsafePointer "String: a length above the largest int")
        if n = 0 then pure (.string .empty)
        else if ← variablesAt ⟨g, o, none⟩ (← elemOf pt) n.toNat then do
          let s ← loadBytes ⟨g, o, none⟩ .empty n.toNat
          freeze ⟨g, o, none⟩ n.toNat
          pure (.string s)
        else unsupported (.unsafePointer "String: not so many bytes at ptr")) := rfl
  rw [hdef]
  have hmax : IntKind.i64.max = 9223372036854775807 := rfl
  have hneg : ¬ (l.length : Int) < 0 := by omega
  simp [asInt, asIntOf, hmax, h63', hneg, hl, variablesAt, hsh, elemOf, run_underlying hp, hlies, hlb]
theorem But.freeze (w : World) (a : Addr) (n : Nat) : But w (w.freeze a n) (· = a.block) := by
  unfold World.freeze
  split
  · exact ⟨rfl, ⟨rfl, Nat.le_refl _⟩, rfl, Nat.le_refl _, fun _ _ _ => rfl⟩
  · exact ⟨rfl, ⟨rfl, Nat.le_refl _⟩, rfl, by simp, fun k hk hne => by
      simp only [Array.getElem?_modify]
      rw [if_neg (Ne.symm hne)]⟩
mutual
theorem AV.kill_kill (b : Nat) : ∀ x : AV, (x.kill b).kill b = x.kill b
  | .agg cs => by simp only [AV.kill, AV.killL_killL b cs]
  | .tup cs => by simp only [AV.kill, AV.killL_killL b cs]
  | .fn f cs ds => by simp only [AV.kill, AV.killL_killL b cs, AV.killL_killL b ds]
  | .ifc t x => by simp only [AV.kill, AV.kill_kill b x]
  | .nptr z b' o => by
    by_cases e : Nat.beq b' b = true
    · simp only [AV.kill, e]
    · simp only [Bool.not_eq_true] at e; simp only [AV.kill, e]
  | .sl b' o n => by
    by_cases e : Nat.beq b' b = true
    · simp only [AV.kill, e]
    · simp only [Bool.not_eq_true] at e; simp only [AV.kill, e]
  | .mp b' => by
    by_cases e : Nat.beq b' b = true
    · simp only [AV.kill, e]
    · simp only [Bool.not_eq_true] at e; simp only [AV.kill, e]
  | .it b' => by
    by_cases e : Nat.beq b' b = true
    · simp only [AV.kill, e]
    · simp only [Bool.not_eq_true] at e; simp only [AV.kill, e]
  | .pl _ => rfl
  | .optr _ _ => rfl
  | .vs _ _ => rfl
  | .vm _ _ => rfl
  | .anyp => rfl
  | .junk => rfl
  | .gone => rfl
theorem AV.killL_killL (b : Nat) : ∀ l : List AV, AV.killL b (AV.killL b l) = AV.killL b l
  | [] => rfl
  | x :: r => by simp only [AV.killL, AV.kill_kill b x, AV.killL_killL b r]
end
theorem killT_killT (b : Nat) : ∀ T, killT b (killT b T) = killT b T
  | [] => rfl
  | (i, x) :: r => by simp only [killT, AV.kill_kill, killT_killT b r]
theorem killH_killH (b : Nat) : ∀ H, killH b (killH b H) = killH b H
  | [] => rfl
  | (i, o) :: r => by
    simp only [killH]
    split
    · exact killH_killH b r
    · rename_i h
      simp only [killH, h, killH_killH b r]
      congr 2
      cases o <;> simp [AObj.kill, AV.killL_killL]
theorem SatB.burn {c : Ctx} {s : St} {β : Emb} {a : Act} {w w' : World} (hs : SatB c s β a w) {b : Nat} {p : Place} (hp : β b = some p) (hbut : But w w' (fun k => p.nil = false ∧ k = p.blk)) : Sat c ⟨killT b s.T, killH b s.H, b :: s.M⟩ a w' := by
  have h1 := hs.replace (p' := ⟨0, 0, 0, 0, true⟩) hp (fun h => by cases h) hbut (o := .row 0 0 0 []) ⟨rfl, fun _ => rfl, fun h => by cases h⟩
  have h2 := Sat.drop ⟨_, h1⟩ b
  have e : killH b ((b, .row 0 0 0 []) :: killH b s.H) = killH b s.H := by
    rw [killH]
    have : Nat.beq b b = true := Nat.beq_refl b
    rw [this]
    exact killH_killH b s.H
  rw [killT_killT, e] at h2
  obtain ⟨β2, h2⟩ := h2;exact ⟨β2, h2.defers, h2.size, h2.heap, h2.slot, h2.keeps, fun i q hq hm => h2.stay i q hq (by rw [mem_cons, Bool.or_eq_false_iff, decide_eq_false_iff_not] at hm; rw [mem_cons, mem_cons]; simp [hm.1, hm.2])⟩
def AV.usd (b : Nat) : Nat → AV
  | 0 => .anyp
  | _ + 1 => .ptr b 0
section
variable {c : Ctx} {s : St} {d : Option Tmp} {ty : TypeId} {pos : String} {af : Array Edge} {g : Option (Nat × Bool)}
theorem e_usd {x : Operand} {b n k fz : Nat} {te e : TypeId} {cs : List AV} {ti : TI} {argTs : Array TypeId} (ht : tget c.U ty = some ti) (htd : ti.desc = .pointer e)
    (hx : opv s.T x = some (.sl b 0 n)) (hb : hget s.H b = some (.row te k fz cs)) (hd : dstOk c.N d = true) :
    EOpB c ⟨d, .call { callee := .builtin .unsafeSliceData, args := #[x], argTypes := argTs }, ty, pos, af, g⟩ s ⟨putT s.T d (.usd b n), s.H, s.M⟩ := by
  intro a w β hs
  have hu : c.P.underlying ty = some (.pointer e) := (ty_under ht).trans (congrArg some htd)
  obtain ⟨p, hp, hcase⟩ := (hs.op hx).sl_inv2;obtain ⟨p', hp', hro⟩ := hs.heap.obj b _ hb
  rw [hp] at hp'; cases hp'
  obtain ⟨_, _, hro⟩ := hro
  have hrun : ∀ (v : Value) (w1 : World), (Builtin.unsafeSliceData_ argTs ty #[a.eval x]).run c.P w = .ok v w1 →
      (execOp a.eval ⟨d, .call { callee := .builtin .unsafeSliceData, args := #[x], argTypes := argTs }, ty, pos, af, g⟩).run c.P w = .ok (.value v) w1 := by
    intro v w1 h
    simp [execOp, resolve, invoke, builtin, h]
  rcases hcase with ⟨hn, cap, hv, hcap, _⟩ | ⟨rfl, A, hv, hA⟩
  · rw [Nat.add_zero] at hv
    by_cases hc0 : cap = 0
    · have hn0 : n = 0 := by omega
      subst hn0 hc0
      obtain ⟨cv, fr, hcv, _⟩ := hro hn
      have hr := Lib.run_unsafeSliceData_zero (P := c.P) w argTs ty e hu ⟨p.blk, p.st, none⟩ 0 (te, cv.size) (shape_of hcv)
      refine ⟨_, β, below_alloc _ _, _, hrun _ _ (by rw [hv]; exact hr), (hs.later ⟨below_alloc _ _, Nat.le_refl _⟩).put hd .anyp⟩
    · refine ⟨w, β, RowKit.Below.refl _ _, _, hrun _ _ (by rw [hv]; exact Lib.run_unsafeSliceData_row (P := c.P) w argTs ty _ n cap hc0), hs.put hd ?_⟩
      cases n with
      | zero => exact .anyp
      | succ m => exact .ptr hp hn
  · cases A with
    | none => exact ⟨w, β, RowKit.Below.refl _ _, _, hrun _ _ (by rw [hv]; exact Lib.run_unsafeSliceData_nil (P := c.P) w argTs ty 0 0), hs.put hd .anyp⟩
    | some ad =>
      obtain ⟨hn, hblk⟩ := hA ad rfl;obtain ⟨cv, fr, hcv, _⟩ := hro hn
      have hr := Lib.run_unsafeSliceData_zero (P := c.P) w argTs ty e hu ad 0 (te, cv.size) (by rw [hblk]; exact shape_of hcv)
      exact ⟨_, β, below_alloc _ _, _, hrun _ _ (by rw [hv]; exact hr), (hs.later ⟨below_alloc _ _, Nat.le_refl _⟩).put hd .anyp⟩
end
section
variable {c : Ctx} {Q : Exit → Act → World → Prop} {T : List (Nat × AV)} {H : List (Nat × AObj)} {M : List Nat} {ops : Array Oper} {rest : List Oper} {d : Tmp} {ty : TypeId} {pos : String} {af : Array Edge}
theorem F_mapU (l : Str) : F cU l = l.map U := by
  induction l with
  | nil => rfl
  | cons a v ih => rw [List.map_cons, ← ih]; rfl
theorem e_ustr {x y : Operand} {b fz : Nat} {e pt it : TypeId} {l : Str} {ti ei : TI} (ht : tget c.U pt = some ti) (htd : ti.desc = .pointer e) (he : tget c.U e = some ei) (hek : ei.size = 1)
    (hx : opv T x = some (.usd b l.length)) (hy : opv T y = some (.pl (.int .i64 l.length))) (hb : hget H b = some (.row e 1 fz (F cU l))) (hd : dstOk c.N (some d) = true) (h63 : l.length ≤ 9223372036854775807) :
    EOp c ⟨some d, .call { callee := .builtin .unsafeString, args := #[x, y], argTypes := #[pt, it] }, ty, pos, af, none⟩ ⟨T, H, M⟩ ⟨putT (killT b T) (some d) (S l), killH b H, b :: M⟩ := by
  intro a w β hs
  have hu : c.P.underlying pt = some (.pointer e) := (ty_under ht).trans (congrArg some htd)
  have hc1 : c.P.cellsOf e = 1 := by
    obtain ⟨i, hi, hi1, _⟩ := ty_info he
    simp [Program.cellsOf, hi, hi1, hek]
  obtain ⟨p, hp, hro⟩ := hs.heap.obj b _ hb;obtain ⟨hpk, hnil, hro⟩ := hro
  have hv2 : a.eval y = .int .i64 (l.length : Int) := hs.pl hy
  have hrun : ∀ (v : Value) (w1 : World), (Builtin.unsafeString_ #[pt, it] ty #[a.eval x, a.eval y]).run c.P w = .ok v w1 →
      (execOp a.eval ⟨some d, .call { callee := .builtin .unsafeString, args := #[x, y], argTypes := #[pt, it] }, ty, pos, af, none⟩).run c.P w = .ok (.value v) w1 := by
    intro v w1 h
    simp [execOp, resolve, invoke, builtin, h]
  have hput : ∀ {w1 : World}, Sat c ⟨killT b T, killH b H, b :: M⟩ a w1 → ∃ β', SatB c ⟨putT (killT b T) (some d) (S l), killH b H, b :: M⟩ β' (a.put (some d) (.string ⟨l.toArray⟩)) w1 := fun ⟨β', h⟩ => ⟨β', h.put hd (.c (.pl _))⟩
  cases l with
  | nil =>
    have hxv := hs.op hx
    obtain ⟨q, hq⟩ : ∃ q, a.eval x = .pointer q := by
      generalize a.eval x = v at hxv
      have hxv : VRel c.F β w .anyp v := hxv
      cases hxv with
      | c h => cases h
      | anyp => exact ⟨_, rfl⟩
    obtain ⟨β', hs'⟩ := hput (hs.burn (w' := w) hp ⟨rfl, ⟨rfl, Nat.le_refl _⟩, rfl, Nat.le_refl _, fun _ _ _ => rfl⟩);exact ⟨w, β', .inl ⟨_, hrun _ _ (by rw [hq, hv2]; exact Lib.run_unsafeString_none (P := c.P) w pt it ty q), hs'⟩⟩
  | cons x0 l0 =>
    obtain ⟨p', hp', hn, hv⟩ := VRel.ptr_inv (b := b) (o := 0) (hs.op hx)
    rw [hp] at hp'; cases hp'
    obtain ⟨cv, fr, hcv, hlim, hlen, hcell, _⟩ := hro hn
    have hFl : (F cU (x0 :: l0)).length = (x0 :: l0).length := by rw [F_mapU, List.length_map]
    have hr := run_ustr (P := c.P) (w := w) pt it ty e hu hc1 p.blk (p.st + 0) cv.size (shape_of hcv) (x0 :: l0) (by simp) (by rw [Nat.add_zero, ← hFl]; exact hlen) h63 (fun j u hj => by
      obtain ⟨v, hv, hr, _⟩ := hcell j (U u) (by rw [F_mapU, List.getElem?_map, hj]; rfl)
      cases hr
      rw [show (⟨p.blk, p.st + 0, none⟩ : Addr).add j = ⟨p.blk, p.st + j, none⟩ by
        unfold Addr.add
        by_cases h0 : j = 0
        · subst h0; simp
        · simp [h0]]
      rw [cell_of_cells hcv]
      exact hv)
    obtain ⟨β', hs'⟩ := hput (hs.burn (w' := w.freeze ⟨p.blk, p.st + 0, none⟩ (x0 :: l0).length) hp (by
      have hb := But.freeze w ⟨p.blk, p.st + 0, none⟩ (x0 :: l0).length
      exact ⟨hb.os, hb.tape, hb.output, hb.size, fun k hk hne => hb.block k hk fun h => hne ⟨hn, h⟩⟩))
    exact ⟨_, β', .inl ⟨_, hrun _ _ (by rw [hv, hv2]; exact hr), hs'⟩⟩
end
section
variable {c : Ctx} {Q : Exit → Act → World → Prop} {T : List (Nat × AV)} {H : List (Nat × AObj)} {M : List Nat} {ops : Array Oper} {rest : List Oper} {d : Tmp} {ty : TypeId} {pos : String} {af : Array Edge} {hot : List Nat} {lq : Plan} {i0 : Nat}
theorem l_tounsafe {src dst u : TypeId} {x : Operand} {b o : Nat} {cs : List AV} {tb : TypeId} {ts td tu : TI} (hnext : RunL c ops Q rest ⟨(d, .ptr b o) :: T, H, M⟩) (h1 : tget c.U src = some ts := by exact rfl) (hd1 : ts.desc = .pointer u := by exact rfl) (h2 : tget c.U dst = some td := by exact rfl) (hd2 : td.desc = .unsafePointer := by exact rfl) (h3 : tget c.U u = some tu := by exact rfl) (hsz : Nat.blt 0 tu.size = true := by exact rfl)
    (hx : opv T x = some (.ptr b o) := by exact rfl) (hb : hget H b = some (.box tb cs) := by exact rfl) (ho : Nat.blt o cs.length = true := by exact rfl) (hdo : dstOk c.N (some d) = true := by exact rfl) : RunL c ops Q (⟨some d, .convert src dst x, ty, pos, af, none⟩ :: rest) ⟨T, H, M⟩ :=
  RunL_q (s := ⟨T, H, M⟩) (q_tounsafe h1 hd1 h2 hd2 h3 hsz hx hb ho) rfl hdo hnext
theorem l_fromunsafe {P : Program} {n : Nat} {src dst u : TypeId} {x : Operand} {b o : Nat} {cs : List AV} {tb : TypeId} {ts td tu : TI} (hnext : RunL c ops Q rest ⟨(d, .ptr b o) :: T, H, M⟩) (hP : c.P = P := by exact rfl) (h1 : tget c.U src = some ts := by exact rfl) (hd1 : ts.desc = .unsafePointer := by exact rfl) (h2 : tget c.U dst = some td := by exact rfl) (hd2 : td.desc = .pointer u := by exact rfl) (h3 : tget c.U u = some tu := by exact rfl)
    (hx : opv T x = some (.ptr b o) := by exact rfl) (hb : hget H b = some (.box tb cs) := by exact rfl) (hn : cs.length = n := by exact rfl) (hlies : liesAt P P.depth tb (n / P.cellsOf tb) o u 1 = true := by kernel_rfl) (hdo : dstOk c.N (some d) = true := by exact rfl) : RunL c ops Q (⟨some d, .convert src dst x, ty, pos, af, none⟩ :: rest) ⟨T, H, M⟩ := by
  subst hP hn
  exact RunL_q (s := ⟨T, H, M⟩) (q_fromunsafe h1 hd1 h2 hd2 h3 hx hb hlies) rfl hdo hnext
theorem l_neqself {t t' u : TypeId} {x y : Operand} {b o : Nat} {ti tu : TI} (hnext : RunL c ops Q rest ⟨(d, B false) :: T, H, M⟩) (ht : tget c.U t = some ti := by exact rfl) (htd : ti.desc = .pointer u := by exact rfl) (hu : tget c.U u = some tu := by exact rfl) (hx : opv T x = some (.ptr b o) := by exact rfl) (hy : opv T y = some (.ptr b o) := by exact rfl) (hdo : dstOk c.N (some d) = true := by exact rfl) : RunL c ops Q (⟨some d, (.binOp .neq t x y t'), ty, pos, af, none⟩ :: rest) ⟨T, H, M⟩ :=
  RunL_q (s := ⟨T, H, M⟩) (q_neqself ht htd hu hx hy) rfl hdo hnext
theorem n_usd {x : Operand} {b n k fz : Nat} {te e : TypeId} {cs : List AV} {ti : TI} {argTs : Array TypeId} (hnext : RunM c ops hot Q lq ⟨(d, .usd b n) :: T, H, M⟩) (ht : tget c.U ty = some ti := by exact rfl) (htd : ti.desc = .pointer e := by exact rfl) (hx : opv T x = some (.sl b 0 n) := by exact rfl) (hb : hget H b = some (.row te k fz cs) := by exact rfl) (hdo : dstOk c.N (some d) = true := by exact rfl) :
    RunN c ops hot Q i0 true ⟨some d, .call { callee := .builtin .unsafeSliceData, args := #[x], argTypes := argTs }, ty, pos, af, none⟩ lq ⟨T, H, M⟩ := RunN_eb (s := ⟨T, H, M⟩) (e_usd ht htd hx hb hdo) rfl hnext
theorem n_ustr {ρ : Type} {kk : Str → Option ρ} {r : ρ} {x y : Operand} {b fz : Nat} {e pt it : TypeId} {l : Str} {ti ei : TI} (h : (unsf l).bind kk = some r) (hn : ∀ v, unsf l = some v → kk v = some r → RunM c ops hot Q lq ⟨(d, S v) :: killT b T, killH b H, b :: M⟩) (hh : mem i0 hot = true := by exact rfl) (ht : tget c.U pt = some ti := by exact rfl) (htd : ti.desc = .pointer e := by exact rfl) (he : tget c.U e = some ei := by exact rfl) (hek : ei.size = 1 := by exact rfl)
    (hx : opv T x = some (.usd b l.length) := by exact rfl) (hy : opv T y = some (.pl (.int .i64 l.length)) := by exact rfl) (hb : hget H b = some (.row e 1 fz (F cU l)) := by exact rfl) (hdo : dstOk c.N (some d) = true := by exact rfl) : RunN c ops hot Q i0 true ⟨some d, .call { callee := .builtin .unsafeString, args := #[x, y], argTypes := #[pt, it] }, ty, pos, af, none⟩ lq ⟨T, H, M⟩ := by
  obtain ⟨v, hv, h⟩ := bind_some h
  have h2 := hn v hv h
  obtain ⟨h63, rfl⟩ := unsf_some hv;exact RunN_e (s := ⟨T, H, M⟩) hh (e_ustr ht htd he hek hx hy hb hdo h63) rfl h2
theorem npcell_le {cs : List AV} {j b2 o : Nat} (hj : cs[j]? = some (.pl (.pointer none))) (i : Nat) (x y : AV) (hx : cs[i]? = some x) (hy : (cs.set j (.nptr true b2 o))[i]? = some y) : AV.Le x y := by
  rw [List.getElem?_set] at hy
  split at hy
  · rename_i e; subst e
    split at hy
    · cases hy
      rw [hj] at hx; cases hx
      intro F β w v h
      rw [h.pl_eq]
      exact .pnil
    · cases hy
  · rw [hx] at hy; cases hy
    exact fun _ _ _ _ h => h
theorem k_npcell {code : Code} {tb : TypeId} {b j : Nat} {cs : List AV} (b2 o : Nat) (h : Run c Q code ⟨T, hset H b (.box tb (cs.set j (.nptr true b2 o))), M⟩) (hb : hget H b = some (.box tb cs) := by exact rfl) (hj : cs[j]? = some (.pl (.pointer none)) := by exact rfl) : Run c Q code ⟨T, H, M⟩ := fun a w hs => h a w (hs.weakbox hb (by simp) (npcell_le hj))
theorem l_npcell  {tb : TypeId} {b j : Nat} {cs : List AV} (b2 o : Nat) (h : RunL c ops Q rest ⟨T, hset H b (.box tb (cs.set j (.nptr true b2 o))), M⟩) (hb : hget H b = some (.box tb cs) := by exact rfl) (hj : cs[j]? = some (.pl (.pointer none)) := by exact rfl) : RunL c ops Q rest ⟨T, H, M⟩ := fun a w hs => h a w (hs.weakbox hb (by simp) (npcell_le hj))
theorem f_npcell {x : Exit} {tb : TypeId} {b j : Nat} {cs : List AV} (b2 o : Nat) (h : Fin c Q x ⟨T, hset H b (.box tb (cs.set j (.nptr true b2 o))), M⟩) (hb : hget H b = some (.box tb cs) := by exact rfl) (hj : cs[j]? = some (.pl (.pointer none)) := by exact rfl) : Fin c Q x ⟨T, H, M⟩ := fun a w hs => h a w (hs.weakbox hb (by simp) (npcell_le hj))
theorem bif_t {α : Type} {a b : Option α} {r : α} (h : (bif true then a else b) = some r) : a = some r := h
theorem bif_f {α : Type} {a b : Option α} {r : α} (h : (bif false then a else b) = some r) : b = some r := h
end
end Go.Abs
set_option linter.unusedVariables false
set_option linter.unusedSimpArgs false
set_option linter.unusedSectionVars false
namespace Go.Abs
open Go Go.RowKit Go.Proofs W
variable [GTab]
section
variable {c : Ctx} {s : St} {d : Option Tmp} {ty : TypeId} {pos : String} {af : Array Edge} {g : Option (Nat × Bool)}
theorem e_mnz {k : FuncId} {fn : Func} {ps : Array TypeId} {cl : Call} {n : Int} {t e : TypeId} {ti ei : TI} (hf : c.P.funcs[k]? = some fn) (hname : (fn.name == "runtime.NumGoroutine") = false) (hb : fn.body.isNone = true) (hn : Extern.findNext fn = none)
    (hE : Extern.find fn = some (Extern.BytealgMakeNoZero.makeNoZero ps #[t])) (ht : tget c.U t = some ti) (htd : ti.desc = .slice e) (he : tget c.U e = some ei) (hk1 : ei.size = 1) (h0 : 0 ≤ n) (h48 : n ≤ 281474976710656)
    (hk : calleeOf s.T cl.callee = some (k, [], [])) (ha : opvL s.T cl.args.toList = some [.pl (.int .i64 n)]) (hbo : hget s.H (nm d) = none) (hd : dstOk c.N d = true) :
    EOpB c ⟨d, .call cl, ty, pos, af, g⟩ s ⟨putT s.T d (.sl (nm d) 0 n.toNat), (nm d, .row e 1 0 []) :: s.H, s.M⟩ := by
  intro a w β hs
  have hu : c.P.underlying t = some (.slice e) := (ty_under ht).trans (congrArg some htd)
  obtain ⟨vs, hA, hrun⟩ := run_call_any (o := ⟨d, .call cl, ty, pos, af, g⟩) hs hk ha rfl;obtain ⟨hl, h⟩ := hA
  match vs, hl, h with
  | [v], _, h =>
    obtain rfl := (h 0 _ _ rfl rfl).pl_eq;obtain ⟨cs, hr, hn1, _⟩ := Lib.run_makeNoZero (P := c.P) w ps t e hu n.toNat (by omega)
    rw [show ((n.toNat : Nat) : Int) = n by omega] at hr
    have hbd : BelowD w w.drew.drew := ⟨⟨rfl, rfl, rfl, Nat.le_refl _, fun _ _ => rfl⟩, by show w.drawn ≤ w.drawn + 1 + 1; omega⟩
    obtain ⟨β', hs', hv⟩ := hs.newrow2 hbd hbo cs e (k := 1) (n := n.toNat) (cap := cs.size) (cs := []) (Nat.zero_le _) hn1 (by omega) (fun j y hy => by simp at hy);refine ⟨_, β', ?_, _, hrun w _ _ ?_, hs'.put hd hv⟩
    · have hb1 : RowKit.Below w.heap.size w.drew.drew (w.drew.drew.alloc (.cells cs e)) := below_alloc w.drew.drew _
      exact hbd.1.trans hb1
    · rw [run_callFunc_extern hf hname hb hn hE]
      have : (Extern.BytealgMakeNoZero.makeNoZero ps #[t] #[.int .i64 n]).run c.P w = _ := hr
      simp [this, Result.andThen]
theorem q_copy0 {t t2 e : TypeId} {x y : Operand} {b o : Nat} {ti ei : TI} (ht : tget c.U t = some ti) (htd : ti.desc = .slice e) (he : tget c.U e = some ei) (hx : opv s.T x = some (.sl b o 0)) (hy : opv s.T y = some (.pl (.slice none 0 0))) :
    QOp c ⟨d, .call { callee := .builtin .copy, args := #[x, y], argTypes := #[t, t2] }, ty, pos, af, g⟩ s (.pl (.int .i64 0)) := by
  intro a w β hs
  have hu : c.P.underlying t = some (.slice e) := (ty_under ht).trans (congrArg some htd)
  obtain ⟨i, hi, hi1, _⟩ := ty_info he;obtain ⟨p, hp, hcase⟩ := (hs.op hx).sl_inv2
  have hv2 : a.eval y = .slice none 0 0 := hs.pl hy
  have hx2 : ∃ A cp, a.eval x = .slice A 0 cp := by
    rcases hcase with ⟨_, cap, hv, _⟩ | ⟨_, A, hv, _⟩
    · exact ⟨_, _, hv⟩
    · exact ⟨_, _, hv⟩
  obtain ⟨A, cp, hv⟩ := hx2;refine ⟨_, .c (.pl _), fun w' _ => ?_⟩
  cases A with
  | none =>
    simp [execOp, resolve, invoke, builtin, hv, hv2, Builtin.copy_, run_underlying hu, Builtin.lenOf, Builtin.firstCells, sizeOf, typeInfo, hi]
    rfl
  | some ad =>
    simp [execOp, resolve, invoke, builtin, hv, hv2, Builtin.copy_, run_underlying hu, Builtin.lenOf, Builtin.firstCells, sizeOf, typeInfo, hi, storeCells]
    rfl
end
section
variable {c : Ctx} {Q : Exit → Act → World → Prop} {T : List (Nat × AV)} {H : List (Nat × AObj)} {M : List Nat} {ops : Array Oper} {rest : List Oper} {d : Tmp} {ty : TypeId} {pos : String} {af : Array Edge} {hot : List Nat} {lq : Plan} {i0 : Nat}
theorem n_mnz {P : Program} {ρ : Type} {kk : Nat → Option ρ} {r : ρ} {k : FuncId} {fn : Func} {ps : Array TypeId} {cl : Call} {n : Int} {t e : TypeId} {ti ei : TI} (hf : P.funcs[k]? = some fn) (h : (mnz n).bind kk = some r) (hnx : ∀ v, mnz n = some v → kk v = some r → RunM c ops hot Q lq ⟨(d, .sl (nm (some d)) 0 v) :: T, (nm (some d), .row e 1 0 []) :: H, M⟩)
    (hP : c.P = P := by exact rfl) (hname : (fn.name == "runtime.NumGoroutine") = false := by kernel_rfl) (hb : fn.body.isNone = true := by kernel_rfl) (hn : Extern.findNext fn = none := by kernel_rfl) (hE : Extern.find fn = some (Extern.BytealgMakeNoZero.makeNoZero ps #[t]) := by exact rfl)
    (ht : tget c.U t = some ti := by exact rfl) (htd : ti.desc = .slice e := by exact rfl) (he : tget c.U e = some ei := by exact rfl) (hk1 : ei.size = 1 := by exact rfl) (hk : calleeOf T cl.callee = some (k, [], []) := by exact rfl) (ha : opvL T cl.args.toList = some [.pl (.int .i64 n)] := by exact rfl) (hbo : hget H (nm (some d)) = none := by exact rfl) (hdo : dstOk c.N (some d) = true := by exact rfl) :
    RunN c ops hot Q i0 true ⟨some d, .call cl, ty, pos, af, none⟩ lq ⟨T, H, M⟩ := by
  subst hP
  obtain ⟨v, hv, h⟩ := bind_some h
  have h2 := hnx v hv h
  obtain ⟨hne, rfl⟩ := mnz_some hv;exact RunN_eb (s := ⟨T, H, M⟩) (e_mnz hf hname hb hn hE ht htd he hk1 hne.1 hne.2 hk ha hbo hdo) rfl h2
theorem l_copy0 {t t2 e : TypeId} {x y : Operand} {b o : Nat} {ti ei : TI} (hnext : RunL c ops Q rest ⟨(d, I 0) :: T, H, M⟩) (ht : tget c.U t = some ti := by exact rfl) (htd : ti.desc = .slice e := by exact rfl) (he : tget c.U e = some ei := by exact rfl) (hx : opv T x = some (.sl b o 0) := by exact rfl) (hy : opv T y = some (.pl (.slice none 0 0)) := by exact rfl) (hdo : dstOk c.N (some d) = true := by exact rfl) :
    RunL c ops Q (⟨some d, .call { callee := .builtin .copy, args := #[x, y], argTypes := #[t, t2] }, ty, pos, af, none⟩ :: rest) ⟨T, H, M⟩ := RunL_q (s := ⟨T, H, M⟩) (q_copy0 ht htd he hx hy) rfl hdo hnext
end
end Go.Abs
set_option linter.unusedVariables false
set_option linter.unusedSimpArgs false
set_option linter.unusedSectionVars false
namespace Go.Abs
open Go Go.RowKit Go.Proofs W
variable [GTab]
def DSpec (P : Program) (k : FuncId) (args : List AV) (H : List (Nat × AObj)) (r : AV) (H' : List (Nat × AObj)) (mv : List Nat) : Prop :=
  (∀ (es : Array Value) (w : World), (callFunc k es).run P w = .ok (.enter k es) w) ∧
  ∀ (F : Nat → Prop) (β : Emb) (w : World) (vs : List Value), HRel F β H w → Args F β w args vs →
    CallsD P k vs.toArray .returning w fun e u' w' => u' = .returning ∧ Rpost (fun r' H'' M => r' = r ∧ H'' = H' ∧ M = mv) F β w e w'
theorem SatB.enter {P : Program} {U : List (Nat × TI)} {hU : TabOk P U} {F : Nat → Prop} {β : Emb} {w : World} {N : Nat} {args : List AV} {H : List (Nat × AObj)} {vs : List Value} (hH : HRel F β H w) (hA : Args F β w args vs) (hn : Nat.ble args.length N = true) :
    SatB ⟨P, U, hU, F, β, w, N, []⟩ ⟨enumT 0 args, H, []⟩ β { tmps := vs.toArray ++ Array.replicate (N - vs.toArray.size) undef, defers := [] } w := by
  obtain ⟨hl, ha⟩ := hA;refine ⟨rfl, ?_, hH, fun i x hx => ?_, Keeps.refl _ _, fun b p hp _ => hp⟩
  · have h1 := Nat.le_of_ble_eq_true hn
    show (vs.toArray ++ Array.replicate (N - vs.toArray.size) undef).size = N
    rw [Array.size_append, Array.size_replicate, List.size_toArray]
    omega
  · rw [get_enumT] at hx
    simp only [Nat.zero_le, if_true, Nat.sub_zero] at hx
    have hi : i < args.length := (List.getElem?_eq_some_iff.1 hx).1
    have hv : vs[i]? = some (vs[i]'(by omega)) := by simp
    refine ⟨vs[i]'(by omega), ?_, ha i x _ hx hv⟩
    rw [Array.getElem?_append_left (by simp; omega)]
    simp
theorem D_of_run {P : Program} {U : List (Nat × TI)} (hU : TabOk P U) {k : FuncId} {fn : Func} {code : Code} {args : List AV} {H H' : List (Nat × AObj)} {r : AV} {mv : List Nat} (hf : P.funcs[k]? = some fn)
    (h : ∀ F β w, (∀ b p, β b = some p → mem b (hnames H) = true) → Run ⟨P, U, hU, F, β, w, fn.ntmps, []⟩ (bodyPost P fn (Rpost (fun r' H'' M => r' = r ∧ H'' = H' ∧ M = mv) F β w)) code ⟨enumT 0 args, H, []⟩)
    (hb : fn.body = some code := by exact rfl) (hname : (fn.name == "runtime.NumGoroutine") = false := by kernel_rfl) (hn : Nat.ble args.length fn.ntmps = true := by exact rfl) : DSpec P k args H r H' mv :=
  ⟨Proofs.enters_of hf hname hb, fun F β w vs hH hA => callsD_of_wp hf hb (h F β w (fun b p hp => let ⟨o, ho⟩ := hH.dom b p hp; hnames_mem ho) _ w ⟨β, SatB.enter hH hA hn⟩)⟩
theorem X_of_runD {P : Program} {U : List (Nat × TI)} (hU : TabOk P U) {k : FuncId} {fn : Func} {code : Code} {args : List AV} {H : List (Nat × AObj)} {Q : Post} (hf : P.funcs[k]? = some fn)
    (h : ∀ F β w, (∀ b p, β b = some p → mem b (hnames H) = true) → (∀ b o, hget H b = some o → ∃ p, β b = some p) → Run ⟨P, U, hU, F, β, w, fn.ntmps, []⟩ (bodyPostD P fn (Rpost Q F β w)) code ⟨enumT 0 args, H, []⟩)
    (hb : fn.body = some code := by exact rfl) (hname : (fn.name == "runtime.NumGoroutine") = false := by kernel_rfl) (hn : Nat.ble args.length fn.ntmps = true := by exact rfl) : ASpec P k args H Q :=
  ⟨Proofs.enters_of hf hname hb, fun F β w vs hH hA => calls_of_wp_defers hf hb (h F β w (fun b p hp => let ⟨o, ho⟩ := hH.dom b p hp; hnames_mem ho) (fun b o ho => let ⟨p, hp, _⟩ := hH.obj b o ho; ⟨p, hp⟩) _ w ⟨β, SatB.enter hH hA hn⟩)⟩
def defVal (p : Place) (off : Nat) (ks : List Value) : Array Value := (.pointer (some ⟨p.blk, p.st + off, none⟩) :: ks).toArray
section
variable {c : Ctx} {Q : Exit → Act → World → Prop} {T : List (Nat × AV)} {H H1 H2 H' : List (Nat × AObj)} {M mv : List Nat} {ops : Array Oper} {rest : List Oper} {ty : TypeId} {pos : String} {af : Array Edge}
theorem l_defer {k : FuncId} {x : Operand} {ys : List Operand} {ks : List Value} {b off : Nat} {ob : AObj} {argTs : Array TypeId} (hA : ∀ b o, hget H1 b = some o → ∃ p, c.β0 b = some p) (hx : opv T x = some (.ptr b off)) (hb : hget H1 b = some ob) (hM : mem b M = false) (hys : ys.map (fun y => match y with | .const v => v | _ => undef) = ks) (hyc : ys.all (fun y => match y with | .const _ => true | _ => false) = true)
    (h : ∀ p, c.β0 b = some p → p.nil = false → RunL { c with D := ⟨.fn (.func k) #[], defVal p off ks⟩ :: c.D } ops Q rest ⟨T, H, M⟩) :
    RunL c ops Q (⟨none, .defer { callee := .value (.func k), args := (x :: ys).toArray, argTypes := argTs }, ty, pos, af, none⟩ :: rest) ⟨T, H, M⟩ := by
  rintro a w ⟨β, hs⟩
  obtain ⟨p, hp⟩ := hA b ob hb
  have hpb := hs.stay b p hp hM
  obtain ⟨p', hp', hn, hv⟩ := (hs.op hx).ptr_inv
  rw [hpb] at hp'; cases hp'
  have hev : ∀ l : List Operand, l.all (fun y => match y with | .const _ => true | _ => false) = true → l.map a.eval = l.map (fun y => match y with | .const v => v | _ => undef) := by
    intro l
    induction l with
    | nil => intro _; rfl
    | cons y r ih =>
      intro hl
      simp only [List.all_cons, Bool.and_eq_true] at hl
      rw [List.map_cons, List.map_cons, ih hl.2]
      cases y with
      | const v => rfl
      | _ => exact absurd hl.1 (by simp)
  refine wpList_plain rfl fun K hK => ?_;unfold Oper.wp
  have hrun : (execOp a.eval ⟨none, .defer { callee := .value (.func k), args := (x :: ys).toArray, argTypes := argTs }, ty, pos, af, none⟩).run c.P w = .ok (.defer ⟨.fn (.func k) #[], defVal p off ks⟩) w := by
    have he : (x :: ys).toArray.map a.eval = defVal p off ks := by
      unfold defVal
      rw [List.map_toArray, List.map_cons, hv, hev ys hyc, hys]
    simp [execOp, resolve, he, Act.eval, Deferred.ofValue]
  rw [hrun, Oper.upon_defer]
  refine hK _ _ (h p hp hn _ _ ⟨β, ?_⟩);exact ⟨by show _ :: a.defers = _ :: c.D; rw [hs.defers], hs.size, hs.heap, hs.slot, hs.keeps, hs.stay⟩
end
section
variable {c : Ctx} {fn : Func} {T : List (Nat × AV)} {H H1 H2 H' : List (Nat × AObj)} {M mv : List Nat} {k : FuncId} {r : AV}
theorem xcallsD (ns : List Nat) {args : List AV} (hspec : DSpec c.P k args H1 r H' mv) {β : Emb} {a : Act} {w : World} (hs : SatB c ⟨T, H, M⟩ β a w) {vs : List Value} (hA : Args c.F β w args vs)
    (hH1 : hpick ns H = H1) (hok : honly ns H1 = true) (hon : AV.onlyL ns args = true) (hH2 : hrest ns H = H2) (hap : hapart H' H2 = true) :
    CallsD c.P k vs.toArray .returning w (fun e u' w' => u' = .returning ∧ ∃ v, e = .returned v ∧ Sat c ⟨kiT mv T, H' ++ kiH mv H2, mv ++ M⟩ a w') := by
  subst hH1 hH2
  have hH : HRel (Fout c.F ns β) (cut ns β) (hpick ns H) w := hs.heap.cut hok
  have hA' : Args (Fout c.F ns β) (cut ns β) w args vs := ⟨hA.1, fun i x v hx hv =>
    (hA.2 i x v hx hv).only (Nat.le_refl _) (fun k hk => .inl (off_cut.1 hk)) (fun _ _ _ => rfl) (fun b p hm hp => cut_some.2 ⟨hm, hp⟩) (AV.onlyL_get hon hx)⟩
  refine (hspec.2 (Fout c.F ns β) (cut ns β) w vs hH hA').mono ?_
  rintro e u' w' ⟨hu, r', v, H'', M', β', rfl, ⟨rfl, rfl, rfl⟩, hH', hv, hkp, hst⟩
  obtain ⟨hs', hup⟩ := SatB_calledX hs hH' hkp hst hap;exact ⟨hu, v, rfl, ⟨_, hs'⟩⟩
def LeavesD (c : Ctx) (fn : Func) (R : Ending → World → Prop) (ds : List Deferred) (s : St) : Prop := ∀ a w, Sat c s a w → Leaves c.P fn a.tmps R ds .returning w
theorem leavesD_cons (ns : List Nat) {R : Ending → World → Prop} {ds D0 : List Deferred} {p : Place} {b off : Nat} {ks : List Value} (hp : c.β0 b = some p) (hn : p.nil = false) (hspec : DSpec c.P k (.ptr b off :: ks.map .pl) H1 r H' mv)
    (h : LeavesD c fn R ds ⟨kiT mv T, H' ++ kiH mv H2, mv ++ M⟩) (hD : D0 = ⟨.fn (.func k) #[], defVal p off ks⟩ :: ds := by exact rfl) (hM : mem b M = false := by exact rfl)
    (hH1 : hpick ns H = H1 := by exact rfl) (hok : honly ns H1 = true := by exact rfl) (hon : AV.onlyL ns (.ptr b off :: ks.map .pl) = true := by exact rfl) (hH2 : hrest ns H = H2 := by exact rfl) (hap : hapart H' H2 = true := by exact rfl) : LeavesD c fn R D0 ⟨T, H, M⟩ := by
  subst hD
  rintro a w ⟨β, hs⟩
  have hpb := hs.stay b p hp hM
  have hA : Args c.F β w (.ptr b off :: ks.map .pl) (.pointer (some ⟨p.blk, p.st + off, none⟩) :: ks) := by
    refine ⟨by simp, fun i x v hx hv => ?_⟩
    cases i with
    | zero =>
      simp only [List.getElem?_cons_zero, Option.some.injEq] at hx hv
      subst hx hv
      exact .ptr hpb hn
    | succ i =>
      simp only [List.getElem?_cons_succ, List.getElem?_map] at hx hv
      rw [hv] at hx
      cases hx
      exact .c (.pl _)
  have hi : (invoke (.fn (.func k) #[]) (defVal p off ks)).run c.P w = .ok (.enter k (defVal p off ks)) w := by
    simp [invoke, hspec.1]
  refine leaves_cons (by intro h; cases h) hi ((xcallsD ns hspec hs hA hH1 hok hon hH2 hap).mono ?_)
  rintro e u' w' ⟨rfl, v, rfl, hs'⟩
  exact h a w' hs'
theorem leavesD_nil {P : Program} {U : List (Nat × TI)} {hU : TabOk P U} {F : Nat → Prop} {β : Emb} {w0 : World} {N : Nat} {D : List Deferred} {Nm : List Nat} {r r' : AV} (σ : List (Nat × Nat))
    (hN : ∀ b p, β b = some p → mem b Nm = true) (hres : resAV U T H fn.results.toList = some r' := by exact rfl) (hr : r'.mapN (reL σ) = r := by exact rfl) (hσ : okS σ = true := by exact rfl) (hH : pickS σ σ H = some H' := by exact rfl) (hM : okM σ M mv Nm = true := by exact rfl) :
    LeavesD ⟨P, U, hU, F, β, w0, N, D⟩ fn (Rpost (fun x H'' M' => x = r ∧ H'' = H' ∧ M' = mv) F β w0) [] ⟨T, H, M⟩ := by
  rintro a w ⟨β', hs⟩
  obtain ⟨u, hu, hv⟩ := run_results hs hres
  have hO : ∀ k, off F (reB σ β') k → off F β' k ∨ w.heap.size ≤ k := fun k hk => .inl (hk.imp id reB_own)
  refine ⟨u, hu, r, u, H', mv, reB σ β', rfl, ⟨rfl, rfl, rfl⟩, hs.heap.re hσ hH, ?_, ?_, fun b p hp hm => ?_⟩
  · rw [← hr]; exact VRel.mapN (Nat.le_refl _) hO (fun _ _ _ => rfl) (reL_rel hσ) hv
  · exact ⟨hs.keeps.os, hs.keeps.tape, hs.keeps.output, hs.keeps.size, hs.keeps.block, fun k hk => hs.keeps.grows k (reB_own hk)⟩
  · obtain ⟨h1, h2⟩ := okM_get hM (hN b p hp) hm;exact reB_some.2 ⟨b, lk_rk hσ h1, hs.stay b p hp h2⟩
theorem fin_D {R : Ending → World → Prop} {s : St} (h : LeavesD c fn R c.D s) : Fin c (bodyPostD c.P fn R) .normal s := by
  intro a w hs
  obtain ⟨β, hb⟩ := hs
  show Leaves c.P fn a.tmps R a.defers .returning w
  rw [hb.defers]
  exact h a w ⟨β, hb⟩
end
end Go.Abs
set_option linter.unusedVariables false
set_option linter.unusedSimpArgs false
set_option linter.unusedSectionVars false
namespace Go.Abs
open Go Go.RowKit Go.Proofs W
variable [GTab]
section
variable {c : Ctx} {T : List (Nat × AV)} {H : List (Nat × AObj)} {M : List Nat} {d : Option Tmp} {ty : TypeId} {pos : String} {af : Array Edge} {g : Option (Nat × Bool)}
theorem e_cellop {cl : Call} {k : FuncId} {tb : TypeId} {b o : Nat} {cs : List AV} {ks : List Value} {old new r : Value} (hk : calleeOf T cl.callee = some (k, [], [])) (ha : opvL T cl.args.toList = some (.ptr b o :: ks.map .pl)) (hb : hget H b = some (.box tb cs)) (hc : cs[o]? = some (.pl old)) (h1 : new.oneCell' = true)
    (hrun : ∀ (ad : Addr) (w : World), w.cell? ad = some old → w.frozen? ad = false → (w.shape? ad.block).isSome = true → (callFunc k (.pointer (some ad) :: ks).toArray).run c.P w = .ok (.value r) (w.setCell ad new)) (hd : dstOk c.N d = true) :
    EOp c ⟨d, .call cl, ty, pos, af, g⟩ ⟨T, H, M⟩ ⟨putT T d (.pl r), hset H b (.box tb (cs.set o (.pl new))), M⟩ := by
  intro a w β hs
  obtain ⟨vs, hA, hrun'⟩ := run_call_any (o := ⟨d, .call cl, ty, pos, af, g⟩) hs hk ha rfl
  simp only [List.nil_append, List.append_nil] at hA
  obtain ⟨hl, hval⟩ := hA
  cases vs with
  | nil => simp at hl
  | cons v0 vr =>
    obtain ⟨p, hp, hn, rfl⟩ := VRel.ptr_inv (hval 0 _ _ rfl rfl)
    have hvr : vr = ks := by
      apply List.ext_getElem?
      intro i
      by_cases hi : i < ks.length
      · have h2 := hval (i + 1) (.pl ks[i]) (vr[i]'(by simp at hl; omega)) (by simp [hi]) (by simp)
        have := h2.pl_eq
        rw [List.getElem?_eq_getElem hi, List.getElem?_eq_getElem (by simp at hl; omega), this]
      · rw [List.getElem?_eq_none (by simp at hl; omega), List.getElem?_eq_none (by omega)]
    subst hvr
    obtain ⟨p', hp', hr⟩ := hs.heap.obj b _ hb
    rw [hp] at hp'; cases hp'
    obtain ⟨_, cv, fr, hcv, ⟨h5, h5'⟩, h6, h7⟩ := hr;obtain ⟨u, hu, hru, _⟩ := h6 o _ hc;obtain rfl := hru.pl_eq
    have hlt : p.st + o < cv.size := (Array.getElem?_eq_some_iff.1 hu).1
    have hcell : w.cell? ⟨p.blk, p.st + o, none⟩ = some u := by rw [cell_of_cells hcv]; exact hu
    have hfz : w.frozen? ⟨p.blk, p.st + o, none⟩ = false := by
      have ht := hcv.1
      obtain ⟨lo, hi⟩ := fr
      simp only [World.frozen?, ht, Bool.and_eq_false_iff, decide_eq_false_iff_not]
      by_cases q : lo ≤ p.st + o
      · exact .inr (h7 _ hlt q)
      · exact .inl q
    have hsh : (w.shape? p.blk).isSome = true := by rw [shape_of hcv]; rfl
    have hsc : w.setCell ⟨p.blk, p.st + o, none⟩ new = w.setCells p.blk (p.st + o) [new] := by simp [World.setCells]
    have hR := hrun' w _ _ (hrun _ _ hcell hfz hsh)
    rw [hsc] at hR
    have hbut := But.setCells p.blk [new] (p.st + o) w
    have hw : ∀ k, k < w.heap.size → ¬ off c.F β k → (w.setCells p.blk (p.st + o) [new]).heap[k]? = w.heap[k]? := fun k hk hno => hbut.block k hk (fun e => hno (.inr ⟨b, p, hp, hn, e.symm⟩))
    refine ⟨_, β, .inl ⟨r, hR, (hs.setobj hp hn hbut (o := .box tb (cs.set o (.pl new))) ⟨hn, _, fr, cells_set _ _ hcv, ⟨h5, by rw [wr_size, List.length_set]; exact h5'⟩, fun i z hz => ?_, fun o' ho' => h7 o' (by rw [wr_size] at ho'; exact ho')⟩).put hd (.c (.pl _))⟩⟩
    rw [wr_get _ _ _ _ (by simp only [List.length_cons, List.length_nil]; omega)]
    simp only [List.length_cons, List.length_nil]
    rw [List.getElem?_set] at hz
    by_cases hi : o = i
    · subst hi
      rw [if_pos rfl] at hz
      split at hz
      · cases hz
        refine ⟨new, ?_, .c (.pl _), h1⟩
        rw [if_pos (by omega)]; simp
      · cases hz
    · rw [if_neg hi] at hz
      obtain ⟨u', hu', hr', h1u⟩ := h6 i z hz;exact ⟨u', by rw [if_neg (by omega)]; exact hu', hr'.mono (fun _ _ h => h) hbut.size (fun _ h => .inl h) hw, h1u⟩
end
theorem spot_none {w : World} {ad : Addr} {v : Value} (h : w.cell? ad = some v) : ad.spot = none := by
  cases hsp : ad.spot with
  | none => rfl
  | some q =>
    simp [World.cell?, hsp] at h
    split at h <;> cases h
theorem setCell_same {w : World} {ad : Addr} {v : Value} (hs : ad.spot = none) (h : w.cell? ad = some v) : w.setCell ad v = w := by
  obtain ⟨blk, o, sp⟩ := ad
  simp only at hs
  subst hs
  unfold World.cell? at h;unfold World.setCell
  have : w.heap.modify blk (fun
      | .cells c elem frozen => .cells (if (none : Option Nat).isSome then c else c.setIfInBounds o v) elem frozen
      | o => o) = w.heap := by
    apply Array.ext_getElem?
    intro i
    rw [Array.getElem?_modify]
    split
    · rename_i hi
      subst hi
      cases hb : w.heap[blk]? with
      | none => rfl
      | some ob =>
        cases ob with
        | cells c e f =>
          simp only [hb] at h
          simp only [Option.map_some, Option.some.injEq, Obj.cells.injEq, and_true]
          simp at h ⊢
          obtain ⟨hlt, hg⟩ := Array.getElem?_eq_some_iff.1 h;apply Array.ext_getElem?
          intro j
          rw [Array.getElem?_setIfInBounds]
          split
          · rename_i hj; subst hj; exact h.symm
          · rfl
        | _ => rfl
    · rfl
  exact congrArg (fun h => { w with heap := h }) this
section
variable {P : Program} {k : FuncId} {fn : Func}
theorem at_load (hf : P.funcs[k]? = some fn) (hname : (fn.name == "runtime.NumGoroutine") = false) (hb : fn.body.isNone = true) (hn : Extern.findNext fn = none) {ik : IntKind} (hE : Extern.find fn = some (Extern.Atomic.loadT (.int ik))) (x : Int) (ad : Addr) (w : World) (hc : w.cell? ad = some (.int ik x)) :
    (callFunc k #[.pointer (some ad)]).run P w = .ok (.value (.int ik x)) w := by
  rw [run_callFunc_extern hf hname hb hn hE, show Extern.Atomic.loadT (.int ik) #[.pointer (some ad)] = (do Extern.Atomic.read (.int ik) (← asAddr (.pointer (some ad)))) from rfl]
  simp [Extern.Atomic.read, asAddr, hc, Result.andThen]
theorem at_store (hf : P.funcs[k]? = some fn) (hname : (fn.name == "runtime.NumGoroutine") = false) (hb : fn.body.isNone = true) (hn : Extern.findNext fn = none) (hE : Extern.find fn = some Extern.Atomic.storeT) (v u : Value) (hv : v.oneCell' = true) (ad : Addr) (w : World) (hc : w.cell? ad = some u) (hz : w.frozen? ad = false) :
    (callFunc k #[.pointer (some ad), v]).run P w = .ok (.value (.tuple #[])) (w.setCell ad v) := by
  rw [run_callFunc_extern hf hname hb hn hE, show Extern.Atomic.storeT #[.pointer (some ad), v] = (do store (← asAddr (.pointer (some ad))) v .atomic; pure Extern.Atomic.none_) from rfl]
  simp [Extern.Atomic.none_, asAddr, run_store P w ad v .atomic hv, hc, hz, Result.andThen]
theorem at_cas (hf : P.funcs[k]? = some fn) (hname : (fn.name == "runtime.NumGoroutine") = false) (hb : fn.body.isNone = true) (hn : Extern.findNext fn = none) {ik : IntKind} (hE : Extern.find fn = some (Extern.Atomic.casT (.int ik))) (x y : Int) (ad : Addr) (w : World) (hc : w.cell? ad = some (.int ik x)) (hz : w.frozen? ad = false) (hs : (w.shape? ad.block).isSome = true) :
    (callFunc k #[.pointer (some ad), .int ik x, .int ik y]).run P w = .ok (.value (.bool true)) (w.setCell ad (.int ik y)) := by
  obtain ⟨q, hq⟩ := Option.isSome_iff_exists.1 hs
  have hdef : Extern.Atomic.casT (.int ik) #[.pointer (some ad), .int ik x, .int ik y] = (do
      let a ← asAddr (.pointer (some ad))
      if ← Extern.Atomic.touchesFrozen a then unsupported (.unsafePointer "a write to bytes that a string shares")
      let eq ← match Extern.Atomic.T.int ik, ← Extern.Atomic.read (.int ik) a, Value.int ik x with
        | _, .int _ x, .int _ y => pure (x == y)
        | .ptr, .pointer x, .pointer y => samePointer x y
        | .int _, .pointer (some _), .int _ 0 | .int _, .int _ 0, .pointer (some _) => pure false
        | .int _, .pointer (some _), _ | .int _, _, .pointer (some _) => unsupported .addressObserved
        | _, _, _ => stuck "atomic.CompareAndSwap: old is no T"
      if eq then store a (.int ik y) .atomic
      pure (.bool eq)) := rfl
  rw [run_callFunc_extern hf hname hb hn hE, hdef]
  simp [Extern.Atomic.read, Extern.Atomic.touchesFrozen, viewAt, hq, asAddr, hc, hz, run_store P w ad (.int ik y) .atomic rfl, Result.andThen]
theorem at_add (hf : P.funcs[k]? = some fn) (hname : (fn.name == "runtime.NumGoroutine") = false) (hb : fn.body.isNone = true) (hn : Extern.findNext fn = none) {ik : IntKind} (hE : Extern.find fn = some (Extern.Atomic.update (Op.intArith .add) ik true)) (x y : Int) (ad : Addr) (w : World) (hc : w.cell? ad = some (.int ik x)) (hz : w.frozen? ad = false) :
    (callFunc k #[.pointer (some ad), .int ik y]).run P w = .ok (.value (.int ik (ik.wrap (x + y)))) (w.setCell ad (.int ik (ik.wrap (x + y)))) := by
  have hdef : Extern.Atomic.update (Op.intArith .add) ik true #[.pointer (some ad), .int ik y] = (do
      let a ← asAddr (.pointer (some ad))
      let old ← Extern.Atomic.read (.int ik) a
      let new ← Op.intArith .add ik (← asInt old) (← asInt (.int ik y))
      store a new .atomic
      pure (if true then new else old)) := rfl
  rw [run_callFunc_extern hf hname hb hn hE, hdef]
  simp [Extern.Atomic.read, Op.intArith, asInt, asIntOf, asAddr, hc, hz, run_store P w ad (.int ik (ik.wrap (x + y))) .atomic rfl, Result.andThen]
theorem race0_spec (hf : P.funcs[k]? = some fn) {m : Mark} (hname : (fn.name == "runtime.NumGoroutine") = false := by kernel_rfl) (hb : fn.body.isNone = true := by kernel_rfl) (hn : Extern.findNext fn = none := by kernel_rfl) (hE : Extern.find fn = some (fun _ => do mark m; pure Extern.Race.none_) := by exact rfl) : NSpec P k [] (.pl (.tuple #[])) := by
  intro F β w vs hA
  obtain ⟨hl, h⟩ := hA;obtain rfl : vs = [] := List.eq_nil_of_length_eq_zero hl.symm;refine ⟨_, .c (.pl _), fun w' => ?_⟩
  rw [run_callFunc_extern hf hname hb hn hE]
  simp [Extern.Race.none_, Result.andThen]
theorem race1_spec (hf : P.funcs[k]? = some fn) (b o : Nat) {m : Addr → Mark} (hname : (fn.name == "runtime.NumGoroutine") = false := by kernel_rfl) (hb : fn.body.isNone = true := by kernel_rfl) (hn : Extern.findNext fn = none := by kernel_rfl) (hE : Extern.find fn = some (Extern.Race.marked m) := by exact rfl) : NSpec P k [.ptr b o] (.pl (.tuple #[])) := by
  intro F β w vs hA
  obtain ⟨hl, h⟩ := hA
  match vs, hl, h with
  | [v], _, h =>
    obtain ⟨p, hp, hn', rfl⟩ := VRel.ptr_inv (h 0 _ _ rfl rfl);refine ⟨_, .c (.pl _), fun w' => ?_⟩
    rw [run_callFunc_extern hf hname hb hn hE]
    simp [Extern.Race.marked, Extern.Race.at_, Extern.Race.none_, Result.andThen]
end
section
variable {c : Ctx} {Q : Exit → Act → World → Prop} {T : List (Nat × AV)} {H : List (Nat × AObj)} {M : List Nat} {ops : Array Oper} {rest : List Oper} {d : Tmp} {ty : TypeId} {pos : String} {af : Array Edge} {hot : List Nat} {lq : Plan} {i0 : Nat} {P : Program} {k : FuncId} {fn : Func} {tb : TypeId} {b o : Nat} {cs : List AV} {cl : Call} {ik : IntKind} {x y : Int}
theorem l_aload (hf : P.funcs[k]? = some fn) (hnext : RunL c ops Q rest ⟨(d, .pl (.int ik x)) :: T, hset H b (.box tb (cs.set o (.pl (.int ik x)))), M⟩) (hP : c.P = P := by exact rfl) (hname : (fn.name == "runtime.NumGoroutine") = false := by kernel_rfl) (hbd : fn.body.isNone = true := by kernel_rfl) (hn : Extern.findNext fn = none := by kernel_rfl) (hE : Extern.find fn = some (Extern.Atomic.loadT (.int ik)) := by exact rfl)
    (hk : calleeOf T cl.callee = some (k, [], []) := by exact rfl) (ha : opvL T cl.args.toList = some [.ptr b o] := by exact rfl) (hb : hget H b = some (.box tb cs) := by exact rfl) (hc : cs[o]? = some (.pl (.int ik x)) := by exact rfl) (hdo : dstOk c.N (some d) = true := by exact rfl) : RunL c ops Q (⟨some d, .call cl, ty, pos, af, none⟩ :: rest) ⟨T, H, M⟩ := by
  subst hP
  exact RunL_e (s := ⟨T, H, M⟩) (e_cellop (ks := []) (r := .int ik x) hk ha hb hc rfl (fun ad w h1 h2 h3 => (at_load hf hname hbd hn hE x ad w h1).trans (congrArg (Result.ok (Next.value (.int ik x))) (setCell_same (spot_none h1) h1).symm)) hdo) rfl hnext
theorem l_acas (hf : P.funcs[k]? = some fn) (hnext : RunL c ops Q rest ⟨(d, B true) :: T, hset H b (.box tb (cs.set o (.pl (.int ik y)))), M⟩) (hP : c.P = P := by exact rfl) (hname : (fn.name == "runtime.NumGoroutine") = false := by kernel_rfl) (hbd : fn.body.isNone = true := by kernel_rfl) (hn : Extern.findNext fn = none := by kernel_rfl) (hE : Extern.find fn = some (Extern.Atomic.casT (.int ik)) := by exact rfl)
    (hk : calleeOf T cl.callee = some (k, [], []) := by exact rfl) (ha : opvL T cl.args.toList = some [.ptr b o, .pl (.int ik x), .pl (.int ik y)] := by exact rfl) (hb : hget H b = some (.box tb cs) := by exact rfl) (hc : cs[o]? = some (.pl (.int ik x)) := by exact rfl) (hdo : dstOk c.N (some d) = true := by exact rfl) : RunL c ops Q (⟨some d, .call cl, ty, pos, af, none⟩ :: rest) ⟨T, H, M⟩ := by
  subst hP
  exact RunL_e (s := ⟨T, H, M⟩) (e_cellop (ks := [.int ik x, .int ik y]) hk ha hb hc rfl (fun ad w h1 h2 h3 => at_cas hf hname hbd hn hE x y ad w h1 h2 h3) hdo) rfl hnext
theorem l_aadd (hf : P.funcs[k]? = some fn) (hnext : RunL c ops Q rest ⟨(d, .pl (.int ik (ik.wrap (x + y)))) :: T, hset H b (.box tb (cs.set o (.pl (.int ik (ik.wrap (x + y)))))), M⟩) (hP : c.P = P := by exact rfl) (hname : (fn.name == "runtime.NumGoroutine") = false := by kernel_rfl) (hbd : fn.body.isNone = true := by kernel_rfl) (hn : Extern.findNext fn = none := by kernel_rfl) (hE : Extern.find fn = some (Extern.Atomic.update (Op.intArith .add) ik true) := by exact rfl)
    (hk : calleeOf T cl.callee = some (k, [], []) := by exact rfl) (ha : opvL T cl.args.toList = some [.ptr b o, .pl (.int ik y)] := by exact rfl) (hb : hget H b = some (.box tb cs) := by exact rfl) (hc : cs[o]? = some (.pl (.int ik x)) := by exact rfl) (hdo : dstOk c.N (some d) = true := by exact rfl) : RunL c ops Q (⟨some d, .call cl, ty, pos, af, none⟩ :: rest) ⟨T, H, M⟩ := by
  subst hP
  exact RunL_e (s := ⟨T, H, M⟩) (e_cellop (ks := [.int ik y]) hk ha hb hc rfl (fun ad w h1 h2 h3 => at_add hf hname hbd hn hE x y ad w h1 h2) hdo) rfl hnext
theorem n_astore {v u : Value} (hf : P.funcs[k]? = some fn) (hnext : RunM c ops hot Q lq ⟨(d, .pl (.tuple #[])) :: T, hset H b (.box tb (cs.set o (.pl v))), M⟩) (hP : c.P = P := by exact rfl) (hh : mem i0 hot = true := by exact rfl) (hname : (fn.name == "runtime.NumGoroutine") = false := by kernel_rfl) (hbd : fn.body.isNone = true := by kernel_rfl) (hn : Extern.findNext fn = none := by kernel_rfl) (hE : Extern.find fn = some Extern.Atomic.storeT := by exact rfl)
    (hk : calleeOf T cl.callee = some (k, [], []) := by exact rfl) (ha : opvL T cl.args.toList = some [.ptr b o, .pl v] := by exact rfl) (hb : hget H b = some (.box tb cs) := by exact rfl) (hc : cs[o]? = some (.pl u) := by exact rfl) (h1 : v.oneCell' = true := by exact rfl) (hdo : dstOk c.N (some d) = true := by exact rfl) : RunN c ops hot Q i0 true ⟨some d, .call cl, ty, pos, af, none⟩ lq ⟨T, H, M⟩ := by
  subst hP
  exact RunN_e (s := ⟨T, H, M⟩) hh (e_cellop (ks := [v]) hk ha hb hc h1 (fun ad w h2 h3 h4 => at_store hf hname hbd hn hE v u h1 ad w h2 h3) hdo) rfl hnext
end
end Go.Abs
set_option linter.unusedVariables false
set_option linter.unusedSimpArgs false
set_option linter.unusedSectionVars false
namespace Go.Abs
open Go Go.RowKit Go.Proofs W
variable [GTab]
section
variable {c : Ctx} {s : St} {d : Option Tmp} {ty : TypeId} {pos : String} {af : Array Edge} {g : Option (Nat × Bool)}
theorem s_indexArr {t : TypeId} {x y : Operand} {b o n : Nat} {k : IntKind} {i : Nat} {ti ei : TI} {e : TypeId} (ht : tget c.U t = some ti) (hd : ti.desc = .array n e) (he : tget c.U e = some ei)
    (hx : opv s.T x = some (.ptr b o)) (hy : opv s.T y = some (.pl (.int k (i : Int)))) (hi : i < n) : QOpS c ⟨d, .indexAddr t x y, ty, pos, af, g⟩ s (.ptr b (o + i * ei.size)) := by
  intro a w β hs
  obtain ⟨p, hp, hn, hv⟩ := (hs.op hx).ptr_inv
  have hu' := ty_under ht
  rw [hd] at hu'
  refine ⟨.pointer (some ⟨p.blk, p.st + (o + i * ei.size), none⟩), .ptr hp hn, fun w' => ?_⟩
  simp [execOp, hv, hs.pl hy, Instr.indexAt, Instr.sureAddr, asIntOf, run_underlying hu', hi, ty_size he, a_add, Nat.add_assoc]
theorem e_appendK {t : TypeId} {y : Operand} {b k m : Nat} {ds : List AV} {ay : AV} {ti ei : TI} {e : TypeId} (hb : hget s.H b = none) (ht : tget c.U t = some ti) (htd : ti.desc = .slice e) (he : tget c.U e = some ei) (hk : ei.size = k) (hzs : ei.zero.cells.size = k) (hbp : 0 < ei.bytes)
    (hy : opv s.T y = some ay) (hsrc : srcAt ((b, .row e k 0 []) :: s.H) k ay = some (m, ds)) (hds : ds.length = m * k) (hbytes : m * ei.bytes ≤ 140737488355328) (hd : dstOk c.N d = true) :
    EOp c ⟨d, .call { callee := .builtin .append, args := #[.const (.slice none 0 0), y], argTypes := #[t, t] }, ty, pos, af, g⟩ s ⟨putT (killT b s.T) d (.sl b 0 m), (b, .row e k 0 ds) :: killH b ((b, .row e k 0 []) :: s.H), b :: s.M⟩ := by
  intro a w β hs
  let p : Place := ⟨0, 0, 0, k, true⟩
  have hs1 := hs.newobj (w' := w) hb p (.inr trivial) (fun h => by cases h) ⟨rfl, ⟨rfl, Nat.le_refl _⟩, rfl, Nat.le_refl _, fun _ _ _ => rfl⟩ (o := .row e k 0 []) ⟨rfl, (fun _ => rfl), (fun h => by cases h)⟩
  have hx : VRel c.F (upd β b p) w (.sl b 0 0) (.slice none 0 0) := .slz (p := p) (upd_same _ _ _) (fun _ h => by cases h)
  obtain ⟨r, w', β', hrun, hs', hr⟩ := append_core (ty := ty) hs1 ht htd he hk hzs hbp hx (by rw [hget_cons, if_pos rfl]) (by simp) (Nat.zero_le _) (hs1.src (hs1.op hy) hsrc hds) hds (by rw [Nat.zero_add]; exact hbytes)
  rw [Nat.zero_add] at hr
  simp only [Nat.sub_self, List.drop_nil, List.take_nil, List.nil_append] at hs'
  have h2 : a.eval (.const (.slice none 0 0)) = .slice none 0 0 := rfl
  exact ⟨w', β', .inl ⟨r, by simp [execOp, resolve, invoke, builtin, hrun, h2], hs'.put hd hr⟩⟩
end
section
variable {c : Ctx} {Q : Exit → Act → World → Prop} {T : List (Nat × AV)} {H : List (Nat × AObj)} {M : List Nat} {ops : Array Oper} {rest : List Oper} {d : Tmp} {ty : TypeId} {pos : String} {af : Array Edge} {hot : List Nat} {lq : Plan} {i0 : Nat}
theorem l_aidx {te : TypeId} {α ρ : Type} {l : List α} {e : α → List AV} {kk : α → Option ρ} {r : ρ} {b fz sz n : Nat} {t : TypeId} {x y : Operand} {k : IntKind} {i : Int} {ti ei : TI} {et : TypeId} (h : (atA n l i).bind kk = some r) (hn : ∀ a, at' l i = some a → kk a = some r → RunL c ops Q rest ⟨(d, .ptr b (i.toNat * sz)) :: T, H, M⟩)
    (ht : tget c.U t = some ti := by exact rfl) (htd : ti.desc = .array n et := by exact rfl) (he : tget c.U et = some ei := by exact rfl) (hsz : ei.size = sz := by exact rfl) (hx : opv T x = some (.ptr b 0) := by exact rfl) (hb : hget H b = some (.row te sz fz (F e l)) := by exact rfl) (hy : opv T y = some (.pl (.int k i)) := by exact rfl) (hdo : dstOk c.N (some d) = true := by exact rfl) : RunL c ops Q (⟨some d, .indexAddr t x y, ty, pos, af, none⟩ :: rest) ⟨T, H, M⟩ := by
  obtain ⟨a, ha, h⟩ := bind_some h;obtain ⟨⟨h0, hlt⟩, ha'⟩ := atA_some ha
  have hi : ((i.toNat : Nat) : Int) = i := Int.toNat_of_nonneg h0
  rw [← hi] at hy
  subst hsz
  have hq := (s_indexArr (d := some d) (ty := ty) (pos := pos) (af := af) (g := none) (s := ⟨T, H, M⟩) ht htd he hx hy (by omega)).later
  rw [Nat.zero_add] at hq
  exact RunL_q (s := ⟨T, H, M⟩) hq rfl hdo (hn a ha' h)
theorem F_zero (n : Nat) : F cU (List.replicate n (0 : UInt8)) = List.replicate n (AV.pl (.int .u8 0)) := by
  induction n with
  | zero => rfl
  | succ n ih => rw [List.replicate_succ, List.replicate_succ, ← ih]; rfl
theorem l_anew {d1 d2 : Tmp} {ty1 ty2 ty3 : TypeId} {pos1 pos2 pos3 : String} {af1 af2 af3 : Array Edge} {t : TypeId} (n : Nat) {ti : TI} {et : TypeId}
    (hnext : RunL c ops Q rest ⟨(d2, .ptr (nm (some d2)) 0) :: (d1, .gone) :: T, (nm (some d2), .row t 1 0 (F cU (List.replicate n (0 : UInt8)))) :: H, M⟩)
    (ht : tget c.U t = some ti := by exact rfl) (htd : ti.desc = .array n et := by exact rfl) (hse : ∃ ei, tget c.U et = some ei := by exact ⟨_, rfl⟩) (hz : ti.zero = .agg (Array.replicate n (.int .u8 0)) := by kernel_rfl) (hsz : ti.size = n := by exact rfl) (hn0 : Nat.blt 0 n = true := by exact rfl)
    (hb : hget H (nm (some d2)) = none := by exact rfl) (hne : Nat.beq d1 d2 = false := by exact rfl) (hdo : dstOk c.N (some d1) = true := by exact rfl) (hdo2 : dstOk c.N (some d2) = true := by exact rfl) :
    RunL c ops Q (⟨some d1, .build t #[], ty1, pos1, af1, none⟩ :: ⟨some d2, .alloc t, ty2, pos2, af2, none⟩ :: ⟨none, .store t (.tmp d2) (.tmp d1), ty3, pos3, af3, none⟩ :: rest) ⟨T, H, M⟩ := by
  rintro a w ⟨β, hs⟩
  have hu : c.P.underlying t = some (.array n et) := (ty_under ht).trans (congrArg some htd)
  obtain ⟨ei, he⟩ := hse
  let Z : Array Value := Array.replicate n (.int .u8 0)
  have hzr : ∀ w', (zeroValue t).run c.P w' = .ok (.agg Z) w' := fun w' => (ty_zero ht w').trans (by rw [hz])
  have hZs : Z.size = n := by simp [Z]
  -- the first
  have hr1 : (execOp a.eval ⟨some d1, .build t #[], ty1, pos1, af1, none⟩).run c.P w = .ok (.value (.agg Z)) w := by
    simp [execOp, Instr.build, hzr, run_underlying hu, ty_size he, Value.cells, Instr.fill]
  refine wpList_plain rfl fun K hK => ?_;unfold Oper.wp
  rw [hr1, Oper.upon_value]
  have hs1 := hs.put (d := some d1) hdo (x := .gone) (v := .agg Z) .gone
  -- the second
  let a1 := a.put (some d1) (.agg Z)
  have hr2 : (execOp a1.eval ⟨some d2, .alloc t, ty2, pos2, af2, none⟩).run c.P w = .ok (.value (.pointer (some ⟨w.heap.size, 0, none⟩))) (w.alloc (.cells Z t)) := by
    simp [execOp, Instr.alloc, hzr, newVar, newRow, Value.cells]
  refine hK _ _ (wpList_plain rfl fun K2 hK2 => ?_);unfold Oper.wp
  rw [hr2, Oper.upon_value]
  let p : Place := ⟨w.heap.size, 0, n, 1, false⟩
  have hFl : (F cU (List.replicate n (0 : UInt8))).length = n := by rw [F_zero, List.length_replicate]
  have hro : ∀ w', ORel c.F (upd β (nm (some d2)) p) w' p (.row t 1 0 (F cU (List.replicate n (0 : UInt8)))) ↔ ∃ cv fr, CellsAt w' p.blk t cv fr ∧ p.lim = cv.size ∧ p.st + n ≤ cv.size ∧ (∀ (i : Nat) (x : AV), (F cU (List.replicate n (0 : UInt8)))[i]? = some x → ∃ v, cv[p.st + i]? = some v ∧ CRel (off c.F (upd β (nm (some d2)) p)) w' x v ∧ v.oneCell' = true) ∧ (∀ o, o < cv.size → fr.1 ≤ o → o < fr.2 → o < p.st + 0) := fun w' =>
    ⟨fun h => by obtain ⟨_, _, h⟩ := h; obtain ⟨cv, fr, h1, h2, h3, h4, h5⟩ := h rfl; exact ⟨cv, fr, h1, h2, by rw [hFl] at h3; exact h3, h4, h5⟩, fun ⟨cv, fr, h1, h2, h3, h4, h5⟩ => ⟨rfl, (fun h => by cases h), fun _ => ⟨cv, fr, h1, h2, by rw [hFl]; exact h3, h4, h5⟩⟩⟩
  have hcell : ∀ (Y : Array Value) (w' : World), Y = Z → ∀ (i : Nat) (x : AV), (F cU (List.replicate n (0 : UInt8)))[i]? = some x → ∃ v, Y[p.st + i]? = some v ∧ CRel (off c.F (upd β (nm (some d2)) p)) w' x v ∧ v.oneCell' = true := by
    rintro Y w' rfl i x hx
    rw [F_zero, List.getElem?_replicate] at hx
    split at hx
    · rename_i hi
      cases hx
      refine ⟨.int .u8 0, ?_, .pl _, rfl⟩
      show Z[0 + i]? = _
      rw [Nat.zero_add, Array.getElem?_replicate, if_pos hi]
    · cases hx
  have hs2 := hs1.newobj (w' := w.alloc (.cells Z t)) hb p (.inl rfl) (fun _ => ⟨Nat.le_refl _, (by show w.heap.size < (w.heap.push _).size; rw [Array.size_push]; exact Nat.lt_succ_self _)⟩) (But.alloc _ _)
    ((hro _).2 ⟨Z, (0, 0), ⟨heap_alloc_at _ _, fun _ => Nat.zero_le _⟩, hZs.symm, by show 0 + n ≤ Z.size; omega, hcell Z _ rfl, fun o _ _ h => by simp at h⟩)
  have hs3 := hs2.put (d := some d2) hdo2 (x := .ptr (nm (some d2)) 0) (v := .pointer (some ⟨w.heap.size, 0 + 0, none⟩)) (.ptr (p := p) (upd_same _ _ _) rfl)
  let a2 := a1.put (some d2) (.pointer (some ⟨w.heap.size, 0, none⟩))
  -- the third
  have hsz1 : d1 < a.tmps.size := by rw [hs.size]; simpa [dstOk, Nat.blt_eq] using hdo
  have hsz2 : d2 < a.tmps.size := by rw [hs.size]; simpa [dstOk, Nat.blt_eq] using hdo2
  have hne' : d1 ≠ d2 := Nat.ne_of_beq_eq_false hne
  have ev1 : a2.eval (.tmp d1) = .agg Z := by simp [a2, a1, Act.eval, Act.put, Array.getElem?_setIfInBounds, hsz1, hne'.symm]
  have ev2 : a2.eval (.tmp d2) = .pointer (some ⟨w.heap.size, 0, none⟩) := by simp [a2, a1, Act.eval, Act.put, Array.getElem?_setIfInBounds, hsz2]
  have hcv : CellsAt (w.alloc (.cells Z t)) w.heap.size t Z (0, 0) := ⟨heap_alloc_at _ _, fun _ => Nat.zero_le _⟩
  have hst := run_storeVar (P := c.P) hcv (ty_size ht _) (v := .agg Z) (o := 0) (by rw [hsz]; exact hZs) (fun u hu => by
    simp only [Value.cells, Z, Array.toList_replicate] at hu
    rw [List.eq_of_mem_replicate hu]; rfl) (by rw [hsz]; omega) (fun i h1 h2 h3 h4 => by simp at h4)
  have hr3 : (execOp a2.eval ⟨none, .store t (.tmp d2) (.tmp d1), ty3, pos3, af3, none⟩).run c.P (w.alloc (.cells Z t)) = .ok .skip ((w.alloc (.cells Z t)).setCells w.heap.size 0 (Value.agg Z).cells.toList) := by
    simp [execOp, ev1, ev2, Instr.storeAt, Instr.sureAddr, hst]
  refine hK2 _ _ (wpList_plain rfl fun K3 hK3 => ?_);unfold Oper.wp
  rw [hr3, Oper.upon_skip]
  have hwr : wr Z 0 Z.toList = Z := by
    apply Array.ext_getElem?
    intro i
    rw [wr_get _ _ _ _ (by simp)]
    split
    · rw [Nat.sub_zero]; simp
    · rfl
  have hs4 := hs3.setobj (upd_same _ _ _) rfl (But.setCells w.heap.size (Value.agg Z).cells.toList 0 (w.alloc (.cells Z t))) (o := .row t 1 0 (F cU (List.replicate n (0 : UInt8))))
    ((hro _).2 ⟨wr Z 0 Z.toList, (0, 0), cells_set _ _ hcv, by rw [wr_size]; exact hZs.symm, by rw [wr_size]; show 0 + n ≤ Z.size; omega, hcell _ _ hwr, fun o _ _ h => by simp at h⟩)
  have hH : hset ((nm (some d2), AObj.row t 1 0 (F cU (List.replicate n (0 : UInt8)))) :: H) (nm (some d2)) (.row t 1 0 (F cU (List.replicate n (0 : UInt8)))) = (nm (some d2), .row t 1 0 (F cU (List.replicate n (0 : UInt8)))) :: hdel H (nm (some d2)) := by
    simp [hset, hdel]
  refine hK3 _ _ (hnext _ _ ⟨_, hs4.defers, hs4.size, ?_, hs4.slot, hs4.keeps, hs4.stay⟩)
  have hdelH : hdel H (nm (some d2)) = H := by
    have : ∀ L : List (Nat × AObj), hget L (nm (some d2)) = none → hdel L (nm (some d2)) = L := by
      intro L
      induction L with
      | nil => intro _; rfl
      | cons q r ih =>
        obtain ⟨j, x⟩ := q
        intro h
        rw [hget_cons] at h
        by_cases e : j = nm (some d2)
        · rw [if_pos e] at h; cases h
        · rw [if_neg e] at h
          simp only [hdel]
          split
          · rename_i hh; exact absurd (Nat.eq_of_beq_eq_true hh) e
          · rw [ih h]
    exact this H hb
  have := hs4.heap
  rw [hH, hdelH] at this
  exact this
theorem l_appc {te' : TypeId} {α ρ : Type} {e : α → List AV} {kk : List α → Option ρ} {r : ρ} {m : List α} {sz b' k fz' : Nat} {t : TypeId} {y : Operand} {ti ei : TI} {et : TypeId} (h : (app sz ([] : List α) m).bind kk = some r)
    (hn : ∀ v, app sz ([] : List α) m = some v → kk v = some r → RunL c ops Q rest ⟨(d, .sl (nm (some d)) 0 v.length) :: killT (nm (some d)) T, (nm (some d), .row et k 0 (F e v)) :: killH (nm (some d)) ((nm (some d), .row et k 0 []) :: H), nm (some d) :: M⟩)
    (ht : tget c.U t = some ti := by exact rfl) (htd : ti.desc = .slice et := by exact rfl) (he : tget c.U et = some ei := by exact rfl) (hk : ei.size = k := by exact rfl) (hzs : ei.zero.cells.size = k := by exact rfl) (hbb : ei.bytes = sz := by exact rfl) (hbp : Nat.blt 0 sz = true := by exact rfl) (hb : hget H (nm (some d)) = none := by exact rfl)
    (hy : opv T y = some (.sl b' 0 m.length) := by exact rfl) (hb' : hget H b' = some (.row te' k fz' (F e m)) := by exact rfl) (hz : ∀ a, (e a).length = k := by exact fun _ => rfl) (hdo : dstOk c.N (some d) = true := by exact rfl) :
    RunL c ops Q (⟨some d, .call { callee := .builtin .append, args := #[.const (.slice none 0 0), y], argTypes := #[t, t] }, ty, pos, af, none⟩ :: rest) ⟨T, H, M⟩ := by
  obtain ⟨v, hv, h⟩ := bind_some h
  have h2 := hn v hv h
  obtain ⟨hl, e0⟩ := app_some hv
  rw [List.nil_append] at e0
  subst e0
  subst hbb
  have hbp : 0 < ei.bytes := by simpa [Nat.blt_eq] using hbp
  have hne : nm (some d) ≠ b' := fun e => by rw [e] at hb; rw [hb] at hb'; cases hb'
  have hb2 : hget ((nm (some d), AObj.row et k 0 []) :: H) b' = some (.row te' k fz' (F e v)) := by rw [hget_cons, if_neg hne]; exact hb'
  refine RunL_e (s := ⟨T, H, M⟩) (e_appendK hb ht htd he hk hzs hbp hy (show srcAt ((nm (some d), .row et k 0 []) :: H) k (.sl b' 0 v.length) = some (v.length, F e v) by simp only [srcAt, hb2, List.drop_zero]; rw [List.take_of_length_le (by rw [F_length hz]; omega)]) (F_length hz v) (by simpa using hl) hdo) rfl h2
theorem VRel.ifc_inv {F : Nat → Prop} {β : Emb} {w : World} {t : TypeId} {x : AV} {v : Value} (h : VRel F β w (.ifc t x) v) : ∃ u, v = .iface t u ∧ VRel F β w x u := by
  cases h with
  | c h => cases h with
    | ifc h => exact ⟨_, rfl, .c h⟩
  | ifc h => exact ⟨_, rfl, h⟩
theorem RL_callXI {H1 H2 H' : List (Nat × AObj)} {mv : List Nat} {d : Option Tmp} {k : FuncId} {r xr y : AV} {t : TypeId} {recv ya : Operand} {name : String} {argTs : Array TypeId} (ns : List Nat) (hspec : XSpec c.P k [xr, y] H1 r H' mv) (hr : opv T recv = some (.ifc t xr)) (hy : opv T ya = some y)
    (hm : ∀ (v u : Value) (w : World), (callMethod (.iface t v) name #[u]).run c.P w = .ok (.enter k #[v, u]) w) (hH1 : hpick ns H = H1) (hok : honly ns H1 = true) (hon : AV.onlyL ns [xr, y] = true) (hH2 : hrest ns H = H2) (hap : hapart H' H2 = true) (hdo : dstOk c.N d = true)
    (hnext : RunL c ops Q rest ⟨putT (kiT mv T) d r, H' ++ kiH mv H2, mv ++ M⟩) : RunL c ops Q (⟨d, .call { callee := .invoke recv name, args := #[ya], argTypes := argTs }, ty, pos, af, none⟩ :: rest) ⟨T, H, M⟩ := by
  rintro a w ⟨β, hs⟩
  obtain ⟨u, hu, hur⟩ := (hs.op hr).ifc_inv
  have hyv := hs.op hy
  have hrun : (execOp a.eval ⟨d, .call { callee := .invoke recv name, args := #[ya], argTypes := argTs }, ty, pos, af, none⟩).run c.P w = .ok (.enter k #[u, a.eval ya]) w := by
    simp [execOp, resolve, invoke, hu, hm]
  have hA : Args c.F β w [xr, y] [u, a.eval ya] := ⟨rfl, fun i x v hx hv => by
    match i, hx, hv with
    | 0, hx, hv => simp at hx hv; subst hx hv; exact hur
    | 1, hx, hv => simp at hx hv; subst hx hv; exact hyv
    | i + 2, hx, hv => simp at hx⟩
  refine wpList_plain rfl fun K hK => ?_;unfold Oper.wp
  rw [hrun, Oper.upon_enter]
  refine (xcalls ns hspec hs hA hH1 hok hon hH2 hap hdo).mono ?_
  rintro e w' ⟨v, rfl, hs', _⟩
  exact hK _ _ (hnext _ _ hs')
theorem l_callXI {α ρ : Type} {P : Program} {g : Option α} {kk : α → Option ρ} {r : ρ} {E : α → AV} {Hf H1 H2 : List (Nat × AObj)} {H' : α → List (Nat × AObj)} {mv mv' : List Nat} {k : FuncId} {xr y : AV} {t : TypeId} {recv ya : Operand} {name : String} {argTs : Array TypeId} {args : List AV} (ws : List (Nat × Nat)) (ns : List Nat) (h : g.bind kk = some r) (hs : ∀ v, g = some v → XSpec P k args Hf (E v) (H' v) mv)
    (hn : ∀ v, g = some v → kk v = some r → RunL c ops Q rest ⟨putT (kiT mv' T) (some d) ((E v).mapN (swL ws)), swH ws (H' v) ++ kiH mv' H2, mv' ++ M⟩)
    (hmv : mv.map (swp ws) = mv' := by exact rfl) (hP : c.P = P := by exact rfl) (hr : opv T recv = some (.ifc t xr) := by exact rfl) (hy : opv T ya = some y := by exact rfl) (hm : ∀ (v u : Value) (w : World), (callMethod (.iface t v) name #[u]).run P w = .ok (.enter k #[v, u]) w := by intros; kernel_rfl) (hargs : AV.mapNL (swL ws) [xr, y] = args := by exact rfl) (hH1 : hpick ns H = H1 := by exact rfl) (hHf : swH ws H1 = Hf := by exact rfl)
    (hok : honly ns H1 = true := by exact rfl) (hon : AV.onlyL ns [xr, y] = true := by exact rfl) (hH2 : hrest ns H = H2 := by exact rfl) (hap : ∀ v, hapart (swH ws (H' v)) H2 = true := by exact fun _ => rfl) (hdo : dstOk c.N (some d) = true := by exact rfl) (hw : nodupB (swN ws) = true := by exact rfl) :
    RunL c ops Q (⟨some d, .call { callee := .invoke recv name, args := #[ya], argTypes := argTs }, ty, pos, af, none⟩ :: rest) ⟨T, H, M⟩ := by
  obtain ⟨v, hv, h⟩ := bind_some h
  subst hP hmv
  exact RL_callXI ns ((hs v hv).sw ws hw hargs hHf) hr hy hm hH1 hok hon hH2 (hap v) hdo (hn v hv h)
theorem n_callK {P : Program} {cl : Call} {k : FuncId} {first cap es args : List AV} {E : AV} (hs : XSpec P k args [] E [] []) (hnext : RunM c ops hot Q lq ⟨(d, E) :: T, H, M⟩) (hP : c.P = P := by exact rfl) (hk : calleeOf T cl.callee = some (k, first, cap) := by exact rfl) (ha : opvL T cl.args.toList = some es := by exact rfl) (hargs : first ++ es ++ cap = args := by exact rfl) (hcl : AV.onlyL [] args = true := by exact rfl) (hdo : dstOk c.N (some d) = true := by exact rfl) :
    RunN c ops hot Q i0 true ⟨some d, .call cl, ty, pos, af, none⟩ lq ⟨T, H, M⟩ := by
  subst hP
  exact RN_pcall hs.p rfl hk ha hargs hcl hdo hnext
theorem l_nnil {t t' : TypeId} {x : Operand} {ti : TI} {e : TypeId} (hnext : RunL c ops Q rest ⟨(d, B true) :: T, H, M⟩) (ht : tget c.U t = some ti := by exact rfl) (htd : ti.desc = .slice e := by exact rfl) (hx : opv T x = some (.pl (.slice none 0 0)) := by exact rfl) (hdo : dstOk c.N (some d) = true := by exact rfl) :
    RunL c ops Q (⟨some d, .binOp .eql t x (.const (.slice none 0 0)) t', ty, pos, af, none⟩ :: rest) ⟨T, H, M⟩ := by
  have hu := ty_under ht
  rw [htd] at hu
  refine RunL_q (s := ⟨T, H, M⟩) (x := B true) (fun a w β hs => ⟨.bool true, .c (.pl _), fun w' _ => ?_⟩) rfl hdo hnext
  have hv : a.eval x = .slice none 0 0 := hs.pl hx
  have h2 : a.eval (.const (.slice none 0 0)) = .slice none 0 0 := rfl
  have h3 : eqGuard .eql t x (.const (.slice none 0 0)) (.slice none 0 0) (.slice none 0 0) = pure () := rfl
  simp [execOp, hv, h2, h3, run_equal_nil hu]
theorem l_nenil {α ρ : Type} {l : List α} {kk : Unit → Option ρ} {r : ρ} {b : Nat} {t t' : TypeId} {x : Operand} {ti : TI} {e : TypeId} (h : (ne0 l).bind kk = some r) (hn : ∀ u, ne0 l = some u → kk u = some r → RunL c ops Q rest ⟨(d, B false) :: T, H, M⟩) (ht : tget c.U t = some ti := by exact rfl) (htd : ti.desc = .slice e := by exact rfl) (hx : opv T x = some (.sl b 0 l.length) := by exact rfl) (hdo : dstOk c.N (some d) = true := by exact rfl) :
    RunL c ops Q (⟨some d, .binOp .eql t x (.const (.slice none 0 0)) t', ty, pos, af, none⟩ :: rest) ⟨T, H, M⟩ := by
  obtain ⟨u, hu0, h⟩ := bind_some h
  have hl := ne0_some hu0
  have hu := ty_under ht
  rw [htd] at hu
  refine RunL_q (s := ⟨T, H, M⟩) (x := B false) (fun a w β hs => ⟨.bool false, .c (.pl _), fun w' _ => ?_⟩) rfl hdo (hn u hu0 h);obtain ⟨p, hp, ⟨_, cap, hv, _⟩ | ⟨h0, _⟩⟩ := (hs.op hx).sl_inv2
  · have h2 : a.eval (.const (.slice none 0 0)) = .slice none 0 0 := rfl
    have h3 : ∀ A n cap, eqGuard .eql t x (.const (.slice none 0 0)) (.slice A n cap) (.slice none 0 0) = pure () := fun _ _ _ => rfl
    simp [execOp, hv, h2, h3, run_equal_nil hu]
  · omega
end
end Go.Abs
