/-
  THE STEPS OF A PRINTED WALK. WRITTEN BY genauto.py. Generic over the program. Conditions: none.
-/
import Derived.Test.YtipbfnjpfmmkfaaGreatDoorAbsGlob
set_option linter.unusedVariables false
set_option linter.unusedSectionVars false
namespace Go.Abs
open Go W
variable [GTab]
section
variable {c : Ctx} {Q : Exit → Act → World → Prop} {T : List (Nat × AV)} {H : List (Nat × AObj)} {M : List Nat} {ops : Array Oper} {rest : List Oper} {d : Tmp} {ty : TypeId} {pos : String} {af : Array Edge} {hot : List Nat} {lq : Plan} {i0 : Nat}
theorem l_move {x : Operand} {ax : AV} (hnext : RunL c ops Q rest ⟨(d, ax) :: T, H, M⟩) (hx : opv T x = some ax := by exact rfl) (hdo : dstOk c.N (some d) = true := by exact rfl) : RunL c ops Q (⟨some d, .move x, ty, pos, af, none⟩ :: rest) ⟨T, H, M⟩ := RL_move hx hdo hnext
theorem n_move {x : Operand} {ax : AV} (hnext : RunM c ops hot Q lq ⟨(d, ax) :: T, H, M⟩) (hx : opv T x = some ax := by exact rfl) (hdo : dstOk c.N (some d) = true := by exact rfl) : RunN c ops hot Q i0 false ⟨some d, .move x, ty, pos, af, none⟩ lq ⟨T, H, M⟩ := RN_move hx hdo hnext
theorem l_assign {x : Operand} {ax : AV} (hnext : RunL c ops Q rest ⟨(d, ax) :: T, H, M⟩) (hx : opv T x = some ax := by exact rfl) (hdo : dstOk c.N (some d) = true := by exact rfl) : RunL c ops Q (⟨some d, .assign x, ty, pos, af, none⟩ :: rest) ⟨T, H, M⟩ := RL_assign hx hdo hnext
theorem n_assign {x : Operand} {ax : AV} (hnext : RunM c ops hot Q lq ⟨(d, ax) :: T, H, M⟩) (hx : opv T x = some ax := by exact rfl) (hdo : dstOk c.N (some d) = true := by exact rfl) : RunN c ops hot Q i0 false ⟨some d, .assign x, ty, pos, af, none⟩ lq ⟨T, H, M⟩ := RN_assign hx hdo hnext
theorem l_pick_true {x y z : Operand} {ax : AV} (hnext : RunL c ops Q rest ⟨(d, ax) :: T, H, M⟩) (hc : opv T x = some (.pl (.bool true)) := by exact rfl) (hx : opv T y = some ax := by exact rfl) (hdo : dstOk c.N (some d) = true := by exact rfl) : RunL c ops Q (⟨some d, .pick x y z, ty, pos, af, none⟩ :: rest) ⟨T, H, M⟩ := RL_pick_true hc hx hdo hnext
theorem n_pick_true {x y z : Operand} {ax : AV} (hnext : RunM c ops hot Q lq ⟨(d, ax) :: T, H, M⟩) (hc : opv T x = some (.pl (.bool true)) := by exact rfl) (hx : opv T y = some ax := by exact rfl) (hdo : dstOk c.N (some d) = true := by exact rfl) : RunN c ops hot Q i0 false ⟨some d, .pick x y z, ty, pos, af, none⟩ lq ⟨T, H, M⟩ := RN_pick_true hc hx hdo hnext
theorem l_pick_false {x y z : Operand} {ax : AV} (hnext : RunL c ops Q rest ⟨(d, ax) :: T, H, M⟩) (hc : opv T x = some (.pl (.bool false)) := by exact rfl) (hx : opv T z = some ax := by exact rfl) (hdo : dstOk c.N (some d) = true := by exact rfl) : RunL c ops Q (⟨some d, .pick x y z, ty, pos, af, none⟩ :: rest) ⟨T, H, M⟩ := RL_pick_false hc hx hdo hnext
theorem n_pick_false {x y z : Operand} {ax : AV} (hnext : RunM c ops hot Q lq ⟨(d, ax) :: T, H, M⟩) (hc : opv T x = some (.pl (.bool false)) := by exact rfl) (hx : opv T z = some ax := by exact rfl) (hdo : dstOk c.N (some d) = true := by exact rfl) : RunN c ops hot Q i0 false ⟨some d, .pick x y z, ty, pos, af, none⟩ lq ⟨T, H, M⟩ := RN_pick_false hc hx hdo hnext
theorem l_un {op : UnOp} {t : TypeId} {x : Operand} {u r : Value} (hnext : RunL c ops Q rest ⟨(d, (.pl r)) :: T, H, M⟩) (hx : opv T x = some (.pl u) := by exact rfl) (hr : ∀ w', (Op.unary op u).run c.P w' = .ok r w' := by exact fun _ => rfl) (hdo : dstOk c.N (some d) = true := by exact rfl) : RunL c ops Q (⟨some d, .unOp op t x, ty, pos, af, none⟩ :: rest) ⟨T, H, M⟩ := RL_un hx hr hdo hnext
theorem l_conv_int {src dst : TypeId} {x : Operand} {k : IntKind} {n : Int} {t1 t2 : TI} {k2 : IntKind} (hnext : RunL c ops Q rest ⟨(d, (.pl (.int k2 (k2.wrap n)))) :: T, H, M⟩) (h1 : tget c.U src = some t1 := by exact rfl) (h2 : tget c.U dst = some t2 := by exact rfl) (hk : t2.desc = .int k2 := by exact rfl) (hx : opv T x = some (.pl (.int k n)) := by exact rfl) (hdo : dstOk c.N (some d) = true := by exact rfl) : RunL c ops Q (⟨some d, .convert src dst x, ty, pos, af, none⟩ :: rest) ⟨T, H, M⟩ := RL_conv_int h1 h2 hk hx hdo hnext
theorem n_conv_int {src dst : TypeId} {x : Operand} {k : IntKind} {n : Int} {t1 t2 : TI} {k2 : IntKind} (hnext : RunM c ops hot Q lq ⟨(d, (.pl (.int k2 (k2.wrap n)))) :: T, H, M⟩) (h1 : tget c.U src = some t1 := by exact rfl) (h2 : tget c.U dst = some t2 := by exact rfl) (hk : t2.desc = .int k2 := by exact rfl) (hx : opv T x = some (.pl (.int k n)) := by exact rfl) (hdo : dstOk c.N (some d) = true := by exact rfl) : RunN c ops hot Q i0 false ⟨some d, .convert src dst x, ty, pos, af, none⟩ lq ⟨T, H, M⟩ := RN_conv_int h1 h2 hk hx hdo hnext
theorem l_extract {x : Operand} {i : Nat} {xs : List AV} {ax : AV} (hnext : RunL c ops Q rest ⟨(d, ax) :: T, H, M⟩) (hx : opv T x = some (.tup xs) := by exact rfl) (hi : xs[i]? = some ax := by exact rfl) (hdo : dstOk c.N (some d) = true := by exact rfl) : RunL c ops Q (⟨some d, .extract x i, ty, pos, af, none⟩ :: rest) ⟨T, H, M⟩ := RL_extract hx hi hdo hnext
theorem n_extract {x : Operand} {i : Nat} {xs : List AV} {ax : AV} (hnext : RunM c ops hot Q lq ⟨(d, ax) :: T, H, M⟩) (hx : opv T x = some (.tup xs) := by exact rfl) (hi : xs[i]? = some ax := by exact rfl) (hdo : dstOk c.N (some d) = true := by exact rfl) : RunN c ops hot Q i0 false ⟨some d, .extract x i, ty, pos, af, none⟩ lq ⟨T, H, M⟩ := RN_extract hx hi hdo hnext
theorem l_field {t : TypeId} {x : Operand} {i : Nat} {xs : List AV} {ti fi : TI} {fs : Array Field} {f : Field} {ax : AV} (hnext : RunL c ops Q rest ⟨(d, ax) :: T, H, M⟩) (ht : tget c.U t = some ti := by exact rfl) (hd : ti.desc = .struct fs := by exact rfl) (hf : fs[i]? = some f := by exact rfl) (hft : tget c.U f.type = some fi := by exact rfl) (hfa : aggD fi.desc = false := by exact rfl) (hx : opv T x = some (.agg xs) := by exact rfl) (hi : xs[f.offset]? = some ax := by exact rfl) (hdo : dstOk c.N (some d) = true := by exact rfl) : RunL c ops Q (⟨some d, .field t x i, ty, pos, af, none⟩ :: rest) ⟨T, H, M⟩ := RL_field ht hd hf hft hfa hx hi hdo hnext
theorem l_fieldAddr {t : TypeId} {x : Operand} {i : Nat} {ax ay : AV} {ti fi : TI} {fs : Array Field} {f : Field} (hnext : RunL c ops Q rest ⟨(d, ay) :: T, H, M⟩) (ht : tget c.U t = some ti := by exact rfl) (hd : ti.desc = .struct fs := by exact rfl) (hf : fs[i]? = some f := by exact rfl) (hft : tget c.U f.type = some fi := by exact rfl) (hne : Nat.beq fi.size 0 = false := by exact rfl) (hx : opv T x = some ax := by exact rfl) (hy : addrOff ax f.offset = some ay := by exact rfl) (hdo : dstOk c.N (some d) = true := by exact rfl) : RunL c ops Q (⟨some d, .fieldAddr t x i, ty, pos, af, none⟩ :: rest) ⟨T, H, M⟩ := RL_fieldAddr ht hd hf hft hne hx hy hdo hnext
theorem n_fieldAddr {t : TypeId} {x : Operand} {i : Nat} {ax ay : AV} {ti fi : TI} {fs : Array Field} {f : Field} (hnext : RunM c ops hot Q lq ⟨(d, ay) :: T, H, M⟩) (ht : tget c.U t = some ti := by exact rfl) (hd : ti.desc = .struct fs := by exact rfl) (hf : fs[i]? = some f := by exact rfl) (hft : tget c.U f.type = some fi := by exact rfl) (hne : Nat.beq fi.size 0 = false := by exact rfl) (hx : opv T x = some ax := by exact rfl) (hy : addrOff ax f.offset = some ay := by exact rfl) (hdo : dstOk c.N (some d) = true := by exact rfl) : RunN c ops hot Q i0 false ⟨some d, .fieldAddr t x i, ty, pos, af, none⟩ lq ⟨T, H, M⟩ := RN_fieldAddr ht hd hf hft hne hx hy hdo hnext
theorem l_nilCheck {x : Operand} {ax ay : AV} (hnext : RunL c ops Q rest ⟨(d, ax) :: T, H, M⟩) (hx : opv T x = some ax := by exact rfl) (hy : addrOff ax 0 = some ay := by exact rfl) (hdo : dstOk c.N (some d) = true := by exact rfl) : RunL c ops Q (⟨some d, .nilCheck x, ty, pos, af, none⟩ :: rest) ⟨T, H, M⟩ := RL_nilCheck hx hy hdo hnext
theorem n_nilCheck {x : Operand} {ax ay : AV} (hnext : RunM c ops hot Q lq ⟨(d, ax) :: T, H, M⟩) (hx : opv T x = some ax := by exact rfl) (hy : addrOff ax 0 = some ay := by exact rfl) (hdo : dstOk c.N (some d) = true := by exact rfl) : RunN c ops hot Q i0 false ⟨some d, .nilCheck x, ty, pos, af, none⟩ lq ⟨T, H, M⟩ := RN_nilCheck hx hy hdo hnext
theorem l_load {t : TypeId} {x : Operand} {ax ay : AV} {cs : List AV} {ti : TI} (hnext : RunL c ops Q rest ⟨(d, ay) :: T, H, M⟩) (ht : tget c.U t = some ti := by exact rfl) (ha : aggD ti.desc = false := by exact rfl) (hx : opv T x = some ax := by exact rfl) (hm : memAt H ax = some cs := by exact rfl) (hc : cs.head? = some ay := by exact rfl) (hdo : dstOk c.N (some d) = true := by exact rfl) : RunL c ops Q (⟨some d, .load t x, ty, pos, af, none⟩ :: rest) ⟨T, H, M⟩ := RL_load ht ha hx hm hc hdo hnext
theorem n_load {t : TypeId} {x : Operand} {ax ay : AV} {cs : List AV} {ti : TI} (hnext : RunM c ops hot Q lq ⟨(d, ay) :: T, H, M⟩) (ht : tget c.U t = some ti := by exact rfl) (ha : aggD ti.desc = false := by exact rfl) (hx : opv T x = some ax := by exact rfl) (hm : memAt H ax = some cs := by exact rfl) (hc : cs.head? = some ay := by exact rfl) (hdo : dstOk c.N (some d) = true := by exact rfl) : RunN c ops hot Q i0 false ⟨some d, .load t x, ty, pos, af, none⟩ lq ⟨T, H, M⟩ := RN_load ht ha hx hm hc hdo hnext
theorem l_load_agg {t : TypeId} {x : Operand} {ax : AV} {cs es : List AV} {ti : TI} (hnext : RunL c ops Q rest ⟨(d, (.agg es)) :: T, H, M⟩) (ht : tget c.U t = some ti := by exact rfl) (ha : aggD ti.desc = true := by exact rfl) (hx : opv T x = some ax := by exact rfl) (hm : memAt H ax = some cs := by exact rfl) (hc : cs.take ti.size = es := by exact rfl) (hl : es.length = ti.size := by exact rfl) (hdo : dstOk c.N (some d) = true := by exact rfl) : RunL c ops Q (⟨some d, .load t x, ty, pos, af, none⟩ :: rest) ⟨T, H, M⟩ := RL_load_agg ht ha hx hm hc hl hdo hnext
theorem n_load_agg {t : TypeId} {x : Operand} {ax : AV} {cs es : List AV} {ti : TI} (hnext : RunM c ops hot Q lq ⟨(d, (.agg es)) :: T, H, M⟩) (ht : tget c.U t = some ti := by exact rfl) (ha : aggD ti.desc = true := by exact rfl) (hx : opv T x = some ax := by exact rfl) (hm : memAt H ax = some cs := by exact rfl) (hc : cs.take ti.size = es := by exact rfl) (hl : es.length = ti.size := by exact rfl) (hdo : dstOk c.N (some d) = true := by exact rfl) : RunN c ops hot Q i0 false ⟨some d, .load t x, ty, pos, af, none⟩ lq ⟨T, H, M⟩ := RN_load_agg ht ha hx hm hc hl hdo hnext
theorem l_makeFunc {f : Fn} {first cap : Array Operand} {l1 l2 : List AV} (hnext : RunL c ops Q rest ⟨(d, (.fn f l1 l2)) :: T, H, M⟩) (h1 : opvL T first.toList = some l1 := by exact rfl) (h2 : opvL T cap.toList = some l2 := by exact rfl) (hdo : dstOk c.N (some d) = true := by exact rfl) : RunL c ops Q (⟨some d, .makeFunc f first cap, ty, pos, af, none⟩ :: rest) ⟨T, H, M⟩ := RL_makeFunc h1 h2 hdo hnext
theorem l_build {t : TypeId} {parts : Array (Nat × Operand)} {ps : List (Nat × AV)} {zs ds : List AV} {ti : TI} {fs : Array Field} (hnext : RunL c ops Q rest ⟨(d, (.agg ds)) :: T, H, M⟩) (ht : tget c.U t = some ti := by exact rfl) (htd : ti.desc = .struct fs := by exact rfl) (hfs : fsOk c.U fs.toList = true := by exact rfl) (hz : cellsA (ofVal ti.zero) = zs := by exact rfl) (hzf : fit (ofVal ti.zero) = true := by exact rfl) (hps : partsA T parts.toList = some ps := by exact rfl) (hfill : fillA (placeOf c.U fs) zs ps = some ds := by exact rfl) (hdo : dstOk c.N (some d) = true := by exact rfl) : RunL c ops Q (⟨some d, .build t parts, ty, pos, af, none⟩ :: rest) ⟨T, H, M⟩ := RL_build ht htd hfs hz hzf hps hfill hdo hnext
theorem n_build {t : TypeId} {parts : Array (Nat × Operand)} {ps : List (Nat × AV)} {zs ds : List AV} {ti : TI} {fs : Array Field} (hnext : RunM c ops hot Q lq ⟨(d, (.agg ds)) :: T, H, M⟩) (ht : tget c.U t = some ti := by exact rfl) (htd : ti.desc = .struct fs := by exact rfl) (hfs : fsOk c.U fs.toList = true := by exact rfl) (hz : cellsA (ofVal ti.zero) = zs := by exact rfl) (hzf : fit (ofVal ti.zero) = true := by exact rfl) (hps : partsA T parts.toList = some ps := by exact rfl) (hfill : fillA (placeOf c.U fs) zs ps = some ds := by exact rfl) (hdo : dstOk c.N (some d) = true := by exact rfl) : RunN c ops hot Q i0 false ⟨some d, .build t parts, ty, pos, af, none⟩ lq ⟨T, H, M⟩ := RN_build ht htd hfs hz hzf hps hfill hdo hnext
theorem l_alloc {t : TypeId} {ti : TI} {cs : List AV} (hnext : RunL c ops Q rest ⟨(d, .ptr (nm (some d)) 0) :: T, (nm (some d), .box t cs) :: H, M⟩) (ht : tget c.U t = some ti := by exact rfl) (hcs : cellsA (ofVal ti.zero) = cs := by exact rfl) (hf : fit (ofVal ti.zero) = true := by exact rfl) (hb : hget H (nm (some d)) = none := by exact rfl) (hdo : dstOk c.N (some d) = true := by exact rfl) : RunL c ops Q (⟨some d, .alloc t, ty, pos, af, none⟩ :: rest) ⟨T, H, M⟩ := RL_alloc ht hcs hf hb hdo hnext
theorem n_alloc {t : TypeId} {ti : TI} {cs : List AV} (hnext : RunM c ops hot Q lq ⟨(d, .ptr (nm (some d)) 0) :: T, (nm (some d), .box t cs) :: H, M⟩) (ht : tget c.U t = some ti := by exact rfl) (hcs : cellsA (ofVal ti.zero) = cs := by exact rfl) (hf : fit (ofVal ti.zero) = true := by exact rfl) (hb : hget H (nm (some d)) = none := by exact rfl) (hdo : dstOk c.N (some d) = true := by exact rfl) : RunN c ops hot Q i0 true ⟨some d, .alloc t, ty, pos, af, none⟩ lq ⟨T, H, M⟩ := RN_alloc ht hcs hf hb hdo hnext
theorem l_box {t : TypeId} {x : Operand} {ax : AV} {cs : List AV} (hnext : RunL c ops Q rest ⟨(d, .ptr (nm (some d)) 0) :: T, (nm (some d), .box t cs) :: H, M⟩) (hx : opv T x = some ax := by exact rfl) (hcs : cellsA ax = cs := by exact rfl) (hf : fit ax = true := by exact rfl) (hb : hget H (nm (some d)) = none := by exact rfl) (hdo : dstOk c.N (some d) = true := by exact rfl) : RunL c ops Q (⟨some d, .box t x, ty, pos, af, none⟩ :: rest) ⟨T, H, M⟩ := RL_box hx hcs hf hb hdo hnext
theorem l_store_box {tb : TypeId} {t : TypeId} {x y : Operand} {b o : Nat} {ay : AV} {cs es : List AV} {ti : TI} (hnext : RunL c ops Q rest ⟨T, hset H b (.box tb (updL cs o es)), M⟩) (ht : tget c.U t = some ti := by exact rfl) (hx : opv T x = some (.ptr b o) := by exact rfl) (hy : opv T y = some ay := by exact rfl) (hes : cellsA ay = es := by exact rfl) (hf : fit ay = true := by exact rfl) (hl : es.length = ti.size := by exact rfl) (hb : hget H b = some (.box tb cs) := by exact rfl) (hin : Nat.ble (o + es.length) cs.length = true := by exact rfl) : RunL c ops Q (⟨none, .store t x y, ty, pos, af, none⟩ :: rest) ⟨T, H, M⟩ := RL_store_box ht hx hy hes hf hl hb hin hnext
theorem n_store_box {tb : TypeId} {t : TypeId} {x y : Operand} {b o : Nat} {ay : AV} {cs es : List AV} {ti : TI} (hnext : RunM c ops hot Q lq ⟨T, hset H b (.box tb (updL cs o es)), M⟩) (ht : tget c.U t = some ti := by exact rfl) (hx : opv T x = some (.ptr b o) := by exact rfl) (hy : opv T y = some ay := by exact rfl) (hes : cellsA ay = es := by exact rfl) (hf : fit ay = true := by exact rfl) (hl : es.length = ti.size := by exact rfl) (hb : hget H b = some (.box tb cs) := by exact rfl) (hin : Nat.ble (o + es.length) cs.length = true := by exact rfl) (hh : mem i0 hot = true := by exact rfl) : RunN c ops hot Q i0 true ⟨none, .store t x y, ty, pos, af, none⟩ lq ⟨T, H, M⟩ := RN_store_box ht hx hy hes hf hl hb hin hh hnext
theorem l_buildSlice0 {t : TypeId} {parts : Array (Nat × Operand)} {ti ei : TI} {e k : Nat} (hnext : RunL c ops Q rest ⟨(d, .sl (nm (some d)) 0 0) :: T, (nm (some d), .row e k 0 []) :: H, M⟩) (ht : tget c.U t = some ti := by exact rfl) (htd : ti.desc = .slice e := by exact rfl) (he : tget c.U e = some ei := by exact rfl) (hk : ei.size = k := by exact rfl) (hp : parts = #[] := by exact rfl) (hb : hget H (nm (some d)) = none := by exact rfl) (hdo : dstOk c.N (some d) = true := by exact rfl) : RunL c ops Q (⟨some d, .buildSlice t 0 parts, ty, pos, af, none⟩ :: rest) ⟨T, H, M⟩ := RL_buildSlice0 ht htd he hk hp hb hdo hnext
theorem l_len {t : TypeId} {x : Operand} {ax : AV} {n : Nat} {ti : TI} {e : TypeId} (hnext : RunL c ops Q rest ⟨(d, (.pl (.int .i64 (n : Int)))) :: T, H, M⟩) (ht : tget c.U t = some ti := by exact rfl) (htd : ti.desc = .slice e := by exact rfl) (hx : opv T x = some ax := by exact rfl) (hn : lenA ax = some n := by exact rfl) (hdo : dstOk c.N (some d) = true := by exact rfl) : RunL c ops Q (⟨some d, .call { callee := .builtin .len, args := #[x], argTypes := #[t] }, ty, pos, af, none⟩ :: rest) ⟨T, H, M⟩ := RL_len ht htd hx hn hdo hnext
theorem n_len {t : TypeId} {x : Operand} {ax : AV} {n : Nat} {ti : TI} {e : TypeId} (hnext : RunM c ops hot Q lq ⟨(d, (.pl (.int .i64 (n : Int)))) :: T, H, M⟩) (ht : tget c.U t = some ti := by exact rfl) (htd : ti.desc = .slice e := by exact rfl) (hx : opv T x = some ax := by exact rfl) (hn : lenA ax = some n := by exact rfl) (hdo : dstOk c.N (some d) = true := by exact rfl) : RunN c ops hot Q i0 false ⟨some d, .call { callee := .builtin .len, args := #[x], argTypes := #[t] }, ty, pos, af, none⟩ lq ⟨T, H, M⟩ := RN_len ht htd hx hn hdo hnext
theorem l_bool {op : BinOp} {t t' : TypeId} {x y : Operand} {m n r : Bool} {ti : TI} (hnext : RunL c ops Q rest ⟨(d, (.pl (.bool r))) :: T, H, M⟩) (ht : tget c.U t = some ti := by exact rfl) (hd : ti.desc = .bool := by exact rfl) (hx : opv T x = some (.pl (.bool m)) := by exact rfl) (hy : opv T y = some (.pl (.bool n)) := by exact rfl) (hop : (op = .eql ∧ r = (m == n)) ∨ (op = .neq ∧ r = !(m == n)) := by first | exact Or.inl ⟨rfl, rfl⟩ | exact Or.inr ⟨rfl, rfl⟩) (hdo : dstOk c.N (some d) = true := by exact rfl) : RunL c ops Q (⟨some d, .binOp op t x y t', ty, pos, af, none⟩ :: rest) ⟨T, H, M⟩ := RL_bool ht hd hx hy hop hdo hnext
theorem l_cmp {op : BinOp} {t t' : TypeId} {x y : Operand} {k : IntKind} {m n : Int} {b : Bool} (hnext : RunL c ops Q rest ⟨(d, (.pl (.bool b))) :: T, H, M⟩) (hx : opv T x = some (.pl (.int k m)) := by exact rfl) (hy : opv T y = some (.pl (.int k n)) := by exact rfl) (hb : binOp op t (.int k m) (.int k n) = pure (.bool b) := by exact rfl) (hdo : dstOk c.N (some d) = true := by exact rfl) : RunL c ops Q (⟨some d, .binOp op t x y t', ty, pos, af, none⟩ :: rest) ⟨T, H, M⟩ := RL_cmp hx hy hb hdo hnext
theorem n_cmp {op : BinOp} {t t' : TypeId} {x y : Operand} {k : IntKind} {m n : Int} {b : Bool} (hnext : RunM c ops hot Q lq ⟨(d, (.pl (.bool b))) :: T, H, M⟩) (hx : opv T x = some (.pl (.int k m)) := by exact rfl) (hy : opv T y = some (.pl (.int k n)) := by exact rfl) (hb : binOp op t (.int k m) (.int k n) = pure (.bool b) := by exact rfl) (hdo : dstOk c.N (some d) = true := by exact rfl) : RunN c ops hot Q i0 false ⟨some d, .binOp op t x y t', ty, pos, af, none⟩ lq ⟨T, H, M⟩ := RN_cmp hx hy hb hdo hnext
abbrev I (n : Int) : AV := .pl (.int .i64 n)
abbrev B (b : Bool) : AV := .pl (.bool b)
abbrev U (b : UInt8) : AV := .pl (.int .u8 (b.toNat : Int))
abbrev S (l : List UInt8) : AV := .pl (.string ⟨l.toArray⟩)
/-- A row of elements, as cells. -/
abbrev F {α : Type} (e : α → List AV) (l : List α) : List AV := l.flatMap e
theorem bind_some {α ρ : Type} {g : Option α} {kk : α → Option ρ} {r : ρ} (h : g.bind kk = some r) : ∃ v, g = some v ∧ kk v = some r := by
  cases g with
  | none => cases h
  | some v => exact ⟨v, rfl, h⟩
theorem cond_some {α : Type} {b : Bool} {x y : Option α} {r : α} (h : (bif b then x else y) = some r) : (b = true ∧ x = some r) ∨ (b = false ∧ y = some r) := by
  cases b with
  | true => exact .inl ⟨rfl, h⟩
  | false => exact .inr ⟨rfl, h⟩
theorem Le_vptr (xs ys : List AV) : AV.Le (.vptr (xs ++ ys)) (.vptr xs) := by
  intro F β w v h
  obtain ⟨b, o, rfl, h1, h2, h3⟩ := h.vptr_inv
  exact .c (VRel.vptr_mk h1 h2 fun i x hx => h3 i x (by rw [List.getElem?_append_left (List.getElem?_eq_some_iff.1 hx).1]; exact hx))
def cI (n : Int) : List AV := [I n]
def cR (n : Int) : List AV := [.pl (.int .i32 n)]
def cU (b : UInt8) : List AV := [U b]
def cS (l : List UInt8) : List AV := [S l]
def oC {α : Type} (e : α → List AV) (o : Option α) : List AV := match o with | none => [] | some x => e x
def oP {α : Type} (e : α → List AV) (o : Option α) : AV := .optr o.isNone (oC e o)
theorem F_cU : ∀ l : List UInt8, F cU l = encB l
  | [] => rfl
  | b :: r => by rw [F, List.flatMap_cons, ← F, F_cU r]; rfl
theorem F_length {α : Type} {e : α → List AV} {k : Nat} (hz : ∀ a, (e a).length = k) (l : List α) : (F e l).length = l.length * k := flat_length hz l
theorem F_app {α : Type} {e : α → List AV} {k : Nat} (hz : ∀ a, (e a).length = k) {l m : List α} : F e (l ++ m) = List.take (l.length * k) (List.drop 0 (F e l)) ++ F e m := by
  rw [List.drop_zero, List.take_of_length_le (by rw [F_length hz]; omega), F, List.flatMap_append]
theorem F_drop {α : Type} {e : α → List AV} {k : Nat} (hz : ∀ a, (e a).length = k) : ∀ (l : List α) (i : Nat), (F e l).drop (i * k) = F e (l.drop i)
  | l, 0 => by simp
  | [], i + 1 => by simp [F]
  | a :: r, i + 1 => by
    rw [F, List.flatMap_cons, List.drop_succ_cons, ← F_drop hz r i, Nat.add_mul, Nat.one_mul, Nat.add_comm, ← List.drop_drop, List.drop_left' (hz a)]
theorem F_takeN {α : Type} {e : α → List AV} {k : Nat} (hz : ∀ a, (e a).length = k) : ∀ (l : List α) (i : Nat), (F e l).take (i * k) = F e (l.take i)
  | l, 0 => by simp
  | [], i + 1 => by simp [F]
  | a :: r, i + 1 => by
    rw [F, List.flatMap_cons, List.take_succ_cons, F, List.flatMap_cons, ← F, ← F, ← F_takeN hz r i, Nat.add_mul, Nat.one_mul, Nat.add_comm, List.take_append, List.take_of_length_le (by rw [hz]; omega), hz, Nat.add_sub_cancel_left]
theorem F_sub {α : Type} {e : α → List AV} {k : Nat} (hz : ∀ a, (e a).length = k) (l : List α) (i n : Nat) : ((F e l).drop (i * k)).take (n * k) = F e ((l.drop i).take n) := by rw [F_drop hz, F_takeN hz]
theorem F_at {α : Type} {e : α → List AV} {k : Nat} (hz : ∀ a, (e a).length = k) {l : List α} {i : Int} {a : α} (ha : at' l i = some a) : (F e l).drop (i.toNat * k) = e a ++ F e (l.drop (i.toNat + 1)) := by
  obtain ⟨h0, hlt, hg⟩ := at'_some ha
  have hi : i.toNat < l.length := by omega
  rw [List.getElem?_eq_getElem hi] at hg
  cases hg
  exact flat_drop hz l i.toNat hi
theorem F_take {α : Type} {e : α → List AV} {k : Nat} (hz : ∀ a, (e a).length = k) {l : List α} {i : Int} {a : α} (ha : at' l i = some a) : ((F e l).drop (i.toNat * k)).take k = e a := by
  rw [F_at hz ha, List.take_append, List.take_of_length_le (by rw [hz]; omega), hz, Nat.sub_self, List.take_zero, List.append_nil]
theorem F_head {α : Type} {e : α → List AV} {k o : Nat} (hz : ∀ a, (e a).length = k) {l : List α} {i : Int} {a : α} {x : AV} (ha : at' l i = some a) (hc : (e a)[o]? = some x) : ((F e l).drop (i.toNat * k + o)).head? = some x := by
  have := (List.getElem?_eq_some_iff.1 hc).1
  rw [← List.drop_drop, F_at hz ha, List.drop_append_of_le_length (by omega), List.head?_append, List.head?_drop, hc]; rfl
theorem cat_lim {l m : List UInt8} (h : l.length + m.length ≤ 9223372036854775807) : ¬ IntKind.i64.max < (((ByteArray.mk l.toArray).size + (ByteArray.mk m.toArray).size : Nat) : Int) := by
  have e : IntKind.i64.max = 9223372036854775807 := by decide
  show ¬ IntKind.i64.max < ((l.length + m.length : Nat) : Int)
  omega
theorem run_cat {P : Program} {w : World} {l m : List UInt8} (h : l.length + m.length ≤ 9223372036854775807) : (Op.stringOp .add ⟨l.toArray⟩ ⟨m.toArray⟩).run P w = .ok (.string ⟨(l ++ m).toArray⟩) w := by
  have e : (⟨l.toArray⟩ ++ ⟨m.toArray⟩ : ByteArray) = ⟨(l ++ m).toArray⟩ := by apply ByteArray.ext; simp
  unfold Op.stringOp
  simp only
  rw [if_neg (cat_lim h), e]
  rfl
theorem wrap_u8_eq (n : Int) : IntKind.u8.wrap n = ((u8 n).toNat : Int) := by
  have e : (2 ^ IntKind.u8.bits : Int) = 256 := by decide
  unfold IntKind.wrap u8
  simp only [e, show IntKind.u8.signed = false from rfl, Bool.false_and, Bool.false_eq_true, if_false]
  rw [UInt8.toNat_ofNat']
  omega
theorem closedL_app : ∀ {l m : List AV}, AV.closedL l = true → AV.closedL m = true → AV.closedL (l ++ m) = true
  | [], _, _, h => h
  | x :: r, m, h, h' => by simp only [AV.closedL, Bool.and_eq_true] at h; simp only [List.cons_append, AV.closedL, Bool.and_eq_true]; exact ⟨h.1, closedL_app h.2 h'⟩
mutual
theorem mapN_closed {f : AV → AV} : ∀ {x : AV}, x.closed = true → x.mapN f = x
  | .agg cs, h => by rw [AV.mapN, mapNL_closed (by simpa [AV.closed] using h)]
  | .tup cs, h => by rw [AV.mapN, mapNL_closed (by simpa [AV.closed] using h)]
  | .fn g cs ds, h => by
    simp only [AV.closed, Bool.and_eq_true] at h
    rw [AV.mapN, mapNL_closed h.1, mapNL_closed h.2]
  | .ifc t x, h => by rw [AV.mapN, mapN_closed (by simpa [AV.closed] using h)]
  | .nptr z b o, h => by cases h
  | .sl b o n, h => by cases h
  | .mp b, h => by cases h
  | .it b, h => by cases h
  | .pl v, _ => rfl
  | .optr z cs, _ => rfl
  | .vs n cs, _ => rfl
  | .vm _ _, _ => rfl
  | .anyp, h => rfl
  | .junk, h => rfl
  | .gone, h => rfl
theorem mapNL_closed {f : AV → AV} : ∀ {l : List AV}, AV.closedL l = true → AV.mapNL f l = l
  | [], _ => rfl
  | x :: r, h => by
    simp only [AV.closedL, Bool.and_eq_true] at h
    rw [AV.mapNL, mapN_closed h.1, mapNL_closed h.2]
end
mutual
theorem closed_only {ns : List Nat} : ∀ {x : AV}, x.closed = true → x.only ns = true
  | .pl _, _ => rfl
  | .agg cs, h => closedL_only (l := cs) h
  | .tup cs, h => closedL_only (l := cs) h
  | .fn _ cs ds, h => by
    simp only [AV.closed, Bool.and_eq_true] at h
    simp only [AV.only, Bool.and_eq_true]
    exact ⟨closedL_only h.1, closedL_only h.2⟩
  | .ifc _ x, h => closed_only (x := x) h
  | .optr _ _, _ => rfl
  | .vs _ _, _ => rfl
  | .vm _ _, _ => rfl
  | .nptr _ _ _, h => by cases h
  | .sl _ _ _, h => by cases h
  | .mp _, h => by cases h
  | .it _, h => by cases h
  | .anyp, h => by cases h
  | .junk, h => by cases h
  | .gone, h => by cases h
theorem closedL_only {ns : List Nat} : ∀ {l : List AV}, AV.closedL l = true → AV.onlyL ns l = true
  | [], _ => rfl
  | x :: r, h => by
    simp only [AV.closedL, Bool.and_eq_true] at h
    simp only [AV.onlyL, Bool.and_eq_true]
    exact ⟨closed_only h.1, closedL_only h.2⟩
end
theorem get_fn {i : Nat} {k : FuncId} {fc : List AV} {f : AV → AV} (h : get T i = some (.fn (.func k) [] fc)) (hc : AV.closedL fc = true) : get (mapT f T) i = some (.fn (.func k) [] fc) := by
  rw [get_mapT, h, Option.map_some, AV.mapN, mapNL_closed hc]; rfl
mutual
theorem kill_closed (b : Nat) : ∀ {x : AV}, x.closed = true → x.kill b = x
  | .pl _, _ => rfl
  | .agg cs, h => by rw [AV.kill, killL_closed b (l := cs) h]
  | .tup cs, h => by rw [AV.kill, killL_closed b (l := cs) h]
  | .fn _ cs ds, h => by
    simp only [AV.closed, Bool.and_eq_true] at h
    rw [AV.kill, killL_closed b h.1, killL_closed b h.2]
  | .ifc _ x, h => by rw [AV.kill, kill_closed b (x := x) h]
  | .optr _ _, _ => rfl
  | .vs _ _, _ => rfl
  | .vm _ _, _ => rfl
  | .nptr _ _ _, h => by cases h
  | .sl _ _ _, h => by cases h
  | .mp _, h => by cases h
  | .it _, h => by cases h
  | .anyp, h => by cases h
  | .junk, h => by cases h
  | .gone, h => by cases h
theorem killL_closed (b : Nat) : ∀ {l : List AV}, AV.closedL l = true → AV.killL b l = l
  | [], _ => rfl
  | x :: r, h => by
    simp only [AV.closedL, Bool.and_eq_true] at h
    rw [AV.killL, kill_closed b h.1, killL_closed b h.2]
end
theorem get_fnk {i b : Nat} {k : FuncId} {fc : List AV} {f : AV → AV} (h : get T i = some (.fn (.func k) [] (AV.killL b fc))) (hc : AV.closedL fc = true) : get (mapT f T) i = some (.fn (.func k) [] fc) := by
  rw [killL_closed b hc] at h
  exact get_fn h hc
theorem get_fnk2 {i b b2 : Nat} {k : FuncId} {fc : List AV} {f : AV → AV} (h : get T i = some (.fn (.func k) [] (AV.killL b (AV.killL b2 fc)))) (hc : AV.closedL fc = true) : get (mapT f T) i = some (.fn (.func k) [] fc) := by
  rw [killL_closed b2 hc, killL_closed b hc] at h
  exact get_fn h hc
theorem Sat.weak1 {i : Nat} {x y : AV} {a : Act} {w : World} (h : Sat c ⟨(i, x) :: T, H, M⟩ a w) (hle : AV.Le x y) : Sat c ⟨(i, y) :: T, H, M⟩ a w := by
  obtain ⟨β, hs⟩ := h
  refine ⟨β, hs.defers, hs.size, hs.heap, fun j z hz => ?_, hs.keeps, hs.stay⟩
  rw [get_cons] at hz
  by_cases e : i = j
  · rw [if_pos e] at hz; cases hz
    obtain ⟨v, hv, hr⟩ := hs.slot j x (by rw [get_cons, if_pos e])
    exact ⟨v, hv, hle _ _ _ _ hr⟩
  · rw [if_neg e] at hz
    exact hs.slot j z (by rw [get_cons, if_neg e]; exact hz)
theorem F_append {α : Type} (e : α → List AV) (l m : List α) : F e (l ++ m) = F e l ++ F e m := by simp only [F, List.flatMap_append]
theorem F_rep {α : Type} (e : α → List AV) (z : α) : ∀ n : Nat, (List.replicate n (e z)).flatMap id = F e (List.replicate n z)
  | 0 => rfl
  | n + 1 => by rw [List.replicate_succ, List.flatMap_cons, F_rep e z n, List.replicate_succ, F, F, List.flatMap_cons]; rfl
theorem updL_right {x y es : List AV} {o : Nat} : updL (x ++ y) (x.length + o) es = x ++ updL y o es := by
  unfold updL
  rw [List.take_length_add_append, List.append_assoc, Nat.add_assoc, List.drop_length_add_append]
theorem updL_left {x y es : List AV} {o : Nat} (h : o + es.length ≤ x.length) : updL (x ++ y) o es = updL x o es ++ y := by
  unfold updL
  rw [List.take_append_of_le_length (by omega), List.drop_append_of_le_length h]
  simp only [List.append_assoc]
theorem F_put {α : Type} {e : α → List AV} {k o : Nat} (hz : ∀ a, (e a).length = k) {l : List α} {i : Int} {a a' : α} {es : List AV} (ha : at' l i = some a) (hl : o + es.length ≤ k) (hu : updL (e a) o es = e a') : updL (F e l) (i.toNat * k + o) es = F e (l.set i.toNat a') := by
  obtain ⟨h0, hlt, hg⟩ := at'_some ha
  have hi : i.toNat < l.length := by omega
  rw [List.getElem?_eq_getElem hi] at hg
  cases hg
  have e1 : l = l.take i.toNat ++ (l[i.toNat] :: l.drop (i.toNat + 1)) := by rw [← List.drop_eq_getElem_cons hi, List.take_append_drop]
  have e2 : l.set i.toNat a' = l.take i.toNat ++ (a' :: l.drop (i.toNat + 1)) := List.set_eq_take_append_cons_drop.trans (if_pos hi)
  rw [e2]
  conv => lhs; rw [e1]
  have hlen : (F e (l.take i.toNat)).length = i.toNat * k := by rw [F_length hz, List.length_take, Nat.min_eq_left (by omega)]
  rw [F_append, F_append, ← hlen, updL_right]
  have e3 : ∀ b m, F e (b :: m) = e b ++ F e m := fun b m => by simp only [F, List.flatMap_cons]
  rw [e3, e3, updL_left (by rw [hz]; exact hl), hu]
/-! ### Code -/
theorem k_seq {x y : Code} {s : St} (h : Run c (Exit.then (y.wp c.P Q) Q) x s) : Run c Q (.seq x y) s := Run_seq h
theorem k_if {ρ : Type} {x : Operand} {p q : Code} {b : Bool} {o1 o2 : Option ρ} {r : ρ} (h : (bif b then o1 else o2) = some r) (ht : b = true → o1 = some r → Run c Q p ⟨T, H, M⟩) (hf : b = false → o2 = some r → Run c Q q ⟨T, H, M⟩)
    (hx : opv T x = some (.pl (.bool b)) := by exact rfl) : Run c Q (.cond x p q) ⟨T, H, M⟩ := by
  rcases cond_some h with ⟨rfl, h⟩ | ⟨rfl, h⟩
  · exact Run_cond_true hx (ht rfl h)
  · exact Run_cond_false hx (hf rfl h)
theorem k_t {x : Operand} {p q : Code} (h : Run c Q p ⟨T, H, M⟩) (hx : opv T x = some (.pl (.bool true)) := by exact rfl) : Run c Q (.cond x p q) ⟨T, H, M⟩ := Run_cond_true hx h
theorem k_f {x : Operand} {p q : Code} (h : Run c Q q ⟨T, H, M⟩) (hx : opv T x = some (.pl (.bool false)) := by exact rfl) : Run c Q (.cond x p q) ⟨T, H, M⟩ := Run_cond_false hx h
theorem k_reg {id : Nat} {l : List Oper} {s : St} (h : RunL c l.toArray Q l s) : Run c Q (.region id l.toArray false) s := Run_region h
theorem k_mix {id : Nat} {lo : List Oper} {s : St} (hot : List Nat) (l : Plan) (hm : c.P.follows .mixedOrders = true) (h : RunM c lo.toArray hot Q l s) (hB : mixOk lo.toArray hot l = true := by kernel_rfl) : Run c Q (.region id lo.toArray true) s := Run_region_m hot l hm hB h
theorem k_nil {s : St} (h : Fin c Q .normal s) : RunL c ops Q [] s := RunL_nil h
theorem m_nil {s : St} (h : Fin c Q .normal s) : RunM c ops hot Q .done s := RunM_nil h
theorem gq {o : Oper} {s : St} (h : RunN c ops hot Q i0 false o lq s) (hi : ops[i0]? = some o := by (simp only [List.getElem?_toArray, List.getElem?_cons_zero, List.getElem?_cons_succ]; exact rfl)) : RunM c ops hot Q (.q i0 lq) s := RunM_getq hi h
theorem ge {o : Oper} {s : St} (h : RunN c ops hot Q i0 true o lq s) (hi : ops[i0]? = some o := by (simp only [List.getElem?_toArray, List.getElem?_cons_zero, List.getElem?_cons_succ]; exact rfl)) : RunM c ops hot Q (.e i0 lq) s := RunM_gete hi h
theorem l_on {op : Op} {j : Nat} {b : Bool} {q : Nat} (h : RunL c ops Q (⟨some d, op, ty, pos, af, none⟩ :: rest) ⟨T, H, M⟩) (hj : ((ops[j]?).bind (·.dst)) = some q := by exact rfl) (hx : get T q = some (.pl (.bool b)) := by exact rfl) : RunL c ops Q (⟨some d, op, ty, pos, af, some (j, b)⟩ :: rest) ⟨T, H, M⟩ := RL_on hj hx h
def offB : Value → Bool → Bool
  | .bool b', b => b' != b
  | _, _ => true
theorem off_wanted {s : St} {β : Emb} {a : Act} {w : World} (hs : SatB c s β a w) {o : Oper} {j q : Nat} {b : Bool} {u : Value} (hg : o.guard = some (j, b)) (hj : ((ops[j]?).bind (·.dst)) = some q) (hx : get s.T q = some (.pl u)) (hu : offB u b = true) : Region.wanted o (yielded ops a.tmps) = false := by
  obtain ⟨v, hv, hr⟩ := hs.slot q _ hx
  obtain rfl := hr.pl_eq
  simp only [Region.wanted, hg, yielded, hj, Option.bind_some, hv]
  cases v <;> first | rfl | (simp [offB] at hu; rename_i b'; cases b <;> cases b' <;> simp_all)
theorem l_off {op : Op} {j : Nat} {b : Bool} {u : Value} {q : Nat} (h : RunL c ops Q rest ⟨(d, .pl undef) :: T, H, M⟩) (hj : ((ops[j]?).bind (·.dst)) = some q := by exact rfl) (hx : get T q = some (.pl u) := by exact rfl) (hu : offB u b = true := by exact rfl) (hd : dstOk c.N (some d) = true := by exact rfl) : RunL c ops Q (⟨some d, op, ty, pos, af, some (j, b)⟩ :: rest) ⟨T, H, M⟩ := by
  rintro a w ⟨β, hs⟩
  have hw := off_wanted hs (o := ⟨some d, op, ty, pos, af, some (j, b)⟩) rfl hj hx hu
  unfold wpList
  rw [hw]
  exact h _ _ ⟨β, hs.put hd (.c (.pl undef))⟩
theorem n_on {op : Op} {j : Nat} {b e : Bool} {q : Nat} (h : RunN c ops hot Q i0 e ⟨some d, op, ty, pos, af, none⟩ lq ⟨T, H, M⟩) (hj : ((ops[j]?).bind (·.dst)) = some q := by exact rfl) (hx : get T q = some (.pl (.bool b)) := by exact rfl) : RunN c ops hot Q i0 e ⟨some d, op, ty, pos, af, some (j, b)⟩ lq ⟨T, H, M⟩ := RN_on hj hx h
theorem n_off {op : Op} {j : Nat} {b e : Bool} {u : Value} {q : Nat} (h : RunM c ops hot Q lq ⟨(d, .pl undef) :: T, H, M⟩) (hj : ((ops[j]?).bind (·.dst)) = some q := by exact rfl) (hx : get T q = some (.pl u) := by exact rfl) (hu : offB u b = true := by exact rfl) (hd : dstOk c.N (some d) = true := by exact rfl) : RunN c ops hot Q i0 e ⟨some d, op, ty, pos, af, some (j, b)⟩ lq ⟨T, H, M⟩ := by
  rintro g hi hwt a w ⟨β, hs⟩
  have hw : Region.wanted { (⟨some d, op, ty, pos, af, some (j, b)⟩ : Oper) with guard := g } (yielded ops a.tmps) = false := by
    rw [hwt a w β hs]
    exact off_wanted hs rfl hj hx hu
  have hk := h _ _ ⟨β, hs.put hd (x := .pl undef) (v := undef) (.c (.pl undef))⟩
  cases e with
  | false =>
    simp only [Plan.step, wpMix, hi]
    exact ⟨undef, .inr ⟨hw, rfl⟩, hk⟩
  | true =>
    simp only [Plan.step, wpMix, wpOp, hi, hw]
    exact ⟨.inr (RowKit.Below.refl _ _), hk⟩
theorem l_split {ρ : Type} {op : Op} {j : Nat} {b e : Bool} {q : Nat} {o1 o2 : Option ρ} {r : ρ} (h : (bif e then o1 else o2) = some r) (ht : e = true → o1 = some r → RunL c ops Q (⟨some d, op, ty, pos, af, some (j, b)⟩ :: rest) ⟨(q, .pl (.bool true)) :: T, H, M⟩)
    (hf : e = false → o2 = some r → RunL c ops Q (⟨some d, op, ty, pos, af, some (j, b)⟩ :: rest) ⟨(q, .pl (.bool false)) :: T, H, M⟩) (hj : ((ops[j]?).bind (·.dst)) = some q := by exact rfl) (hx : get T q = some (.pl (.bool e)) := by exact rfl) : RunL c ops Q (⟨some d, op, ty, pos, af, some (j, b)⟩ :: rest) ⟨T, H, M⟩ := by
  rcases cond_some h with ⟨rfl, h⟩ | ⟨rfl, h⟩
  · exact RL_split hj hx (fun e => ht rfl h) (fun e => by cases e)
  · exact RL_split hj hx (fun e => by cases e) (fun e => hf rfl h)
theorem n_split {ρ : Type} {op : Op} {j : Nat} {b e f : Bool} {q : Nat} {o1 o2 : Option ρ} {r : ρ} (h : (bif f then o1 else o2) = some r) (ht : f = true → o1 = some r → RunN c ops hot Q i0 e ⟨some d, op, ty, pos, af, some (j, b)⟩ lq ⟨(q, .pl (.bool true)) :: T, H, M⟩)
    (hf : f = false → o2 = some r → RunN c ops hot Q i0 e ⟨some d, op, ty, pos, af, some (j, b)⟩ lq ⟨(q, .pl (.bool false)) :: T, H, M⟩) (hj : ((ops[j]?).bind (·.dst)) = some q := by exact rfl) (hx : get T q = some (.pl (.bool f)) := by exact rfl) : RunN c ops hot Q i0 e ⟨some d, op, ty, pos, af, some (j, b)⟩ lq ⟨T, H, M⟩ := by
  rcases cond_some h with ⟨rfl, h⟩ | ⟨rfl, h⟩
  · exact RN_split hj hx (fun e => ht rfl h) (fun e => by cases e)
  · exact RN_split hj hx (fun e => by cases e) (fun e => hf rfl h)
/-! ### Ends -/
theorem f_t {y : Code} {s : St} (h : Run c Q y s) : Fin c (Exit.then (y.wp c.P Q) Q) .normal s := h
theorem f_te {K : Act → World → Prop} {id : Nat} {s : St} (h : Fin c Q (.exit id) s) : Fin c (Exit.then K Q) (.exit id) s := h
theorem f_tr {K : Act → World → Prop} {s : St} (h : Fin c Q .ret s) : Fin c (Exit.then K Q) .ret s := h
theorem f_b {id : Nat} {s : St} (h : Fin c Q .normal s) : Fin c (Exit.inBlock id Q) .normal s := h
theorem f_br {id : Nat} {s : St} (h : Fin c Q .ret s) : Fin c (Exit.inBlock id Q) .ret s := h
theorem f_be {id : Nat} {s : St} (h : Fin c Q .normal s) : Fin c (Exit.inBlock id Q) (.exit id) s := Fin_block_exit h
theorem f_bo {id id' : Nat} {s : St} (h : Fin c Q (.exit id') s) (hne : Nat.beq id' id = false := by exact rfl) : Fin c (Exit.inBlock id Q) (.exit id') s := Fin_block_on hne h
/-- What holds at one of some ends. -/
def Ex {ω : Type} (X : ω → Exit × St) (c : Ctx) (t : ω) : Exit → Act → World → Prop := fun e a w => (X t).1 = e ∧ Sat c (X t).2 a w
theorem Run_mono {x : Code} {s : St} {Q' : Exit → Act → World → Prop} (h : Run c Q x s) (hq : ∀ e a w, Q e a w → Q' e a w) : Run c Q' x s := fun a w hs => wp_mono (h a w hs) (fun e a w => hq e a w)
theorem k_cut {ω ρ : Type} {x : Code} {s : St} {o : Option ω} {kk : ω → Option ρ} {r : ρ} (X : ω → Exit × St) (h : o.bind kk = some r) (h1 : ∀ t, o = some t → Run c (Ex X c t) x s) (h2 : ∀ t, kk t = some r → Fin c Q (X t).1 (X t).2) : Run c Q x s := by
  obtain ⟨t, ht, hk⟩ := bind_some h
  exact Run_mono (h1 t ht) fun e a w ⟨he, hs⟩ => by subst he; exact h2 t hk a w hs
theorem k_loop {τ ω ρ : Type} {x : Code} {f : τ → Option (τ ⊕ ω)} {y0 : τ} {kk : ω → Option ρ} {r : ρ} {N : List Nat} (S : τ → St) (X : ω → Exit × St) (σ : List (Nat × Nat)) (hB : ∀ b p, c.β0 b = some p → mem b N = true) (h : (iter f y0).bind kk = some r)
    (h1 : ∀ y t, f y = some t → Run c (Exit.then (fun a w => ∃ z, t = .inl z ∧ Sat c (S z) a w) (fun e a w => ∃ q, t = .inr q ∧ Ex X c q e a w)) x (S y)) (h2 : ∀ q, kk q = some r → Fin c Q (X q).1 (X q).2)
    (hσ : okS σ = true := by exact rfl) (hH : pickS σ σ H = some (S y0).H := by exact rfl) (hT : Sub (S y0).T (mapT (reL σ) T) := by (repeat' first | exact True.intro | exact rfl | exact get_fn rfl (And.left (by assumption)) | exact get_fnk rfl (And.left (by assumption)) | exact get_fnk2 rfl (And.left (by assumption)) | apply And.intro)) (hM : okM σ M (S y0).M N = true := by exact rfl) : Run c Q (.loop x) ⟨T, H, M⟩ := by
  obtain ⟨q, hq, hk⟩ := bind_some h
  obtain ⟨n, hn⟩ := iterN_of hq
  intro a w hs
  have hs0 : Sat c (S y0) a w := hs.to σ hσ hH hT hB hM
  refine wp_mono (Run_loop (c := c) (Q := Ex X c q) (x := x) (fun y : Nat × τ => S y.2) (fun y => iterN f y.1 y.2 = some q) (fun y => y.1) (n, y0) hn (fun y hy => ?_) a w hs0) fun e a w ⟨he, hs⟩ => by subst he; exact h2 q hk a w hs
  obtain ⟨m, y⟩ := y
  cases m with
  | zero => cases hy
  | succ m =>
    obtain ⟨t, ht, hkt⟩ := bind_some hy
    refine Run_mono (h1 y t ht) fun e a w hq' => ?_
    cases e with
    | normal =>
      obtain ⟨z, rfl, hz⟩ := hq'
      exact ⟨(m, z), hkt, Nat.lt_succ_self m, hz⟩
    | exit id => obtain ⟨q', rfl, hx⟩ := hq'; cases hkt; exact hx
    | goto l => obtain ⟨q', rfl, hx⟩ := hq'; cases hkt; exact hx
    | ret => obtain ⟨q', rfl, hx⟩ := hq'; cases hkt; exact hx
    | panic ch => obtain ⟨q', rfl, hx⟩ := hq'; cases hkt; exact hx
    | outgrown => obtain ⟨q', rfl, hx⟩ := hq'; cases hkt; exact hx
theorem k_next {τ ω : Type} {S : τ → St} {z0 : τ} {t : τ ⊕ ω} {N : List Nat} (σ : List (Nat × Nat)) (hB : ∀ b p, c.β0 b = some p → mem b N = true) (h : some (Sum.inl z0) = some t)
    (hσ : okS σ = true := by exact rfl) (hH : pickS σ σ H = some (S z0).H := by exact rfl) (hT : Sub (S z0).T (mapT (reL σ) T) := by (repeat' first | exact True.intro | exact rfl | exact get_fn rfl (And.left (by assumption)) | exact get_fnk rfl (And.left (by assumption)) | exact get_fnk2 rfl (And.left (by assumption)) | apply And.intro)) (hM : okM σ M (S z0).M N = true := by exact rfl) :
    Fin c (Exit.then (fun a w => ∃ z, t = .inl z ∧ Sat c (S z) a w) Q) .normal ⟨T, H, M⟩ := by
  cases h
  exact fun a w hs => ⟨z0, rfl, hs.to σ hσ hH hT hB hM⟩
theorem k_brk {τ ω : Type} {X : ω → Exit × St} {K : Act → World → Prop} {q0 : ω} {t : τ ⊕ ω} {e : Exit} {N : List Nat} (σ : List (Nat × Nat)) (hB : ∀ b p, c.β0 b = some p → mem b N = true) (h : some (Sum.inr q0) = some t)
    (he : (X q0).1 = e := by exact rfl) (hn : (match e with | .normal => false | _ => true) = true := by exact rfl) (hσ : okS σ = true := by exact rfl) (hH : pickS σ σ H = some (X q0).2.H := by exact rfl) (hT : Sub (X q0).2.T (mapT (reL σ) T) := by (repeat' first | exact True.intro | exact rfl | exact get_fn rfl (And.left (by assumption)) | exact get_fnk rfl (And.left (by assumption)) | exact get_fnk2 rfl (And.left (by assumption)) | apply And.intro)) (hM : okM σ M (X q0).2.M N = true := by exact rfl) :
    Fin c (Exit.then K (fun e a w => ∃ q, t = .inr q ∧ Ex X c q e a w)) e ⟨T, H, M⟩ := by
  cases h
  intro a w hs
  have : Sat c (X q0).2 a w := hs.to σ hσ hH hT hB hM
  cases e with
  | normal => cases hn
  | exit id => exact ⟨q0, rfl, he, this⟩
  | goto l => exact ⟨q0, rfl, he, this⟩
  | ret => exact ⟨q0, rfl, he, this⟩
  | panic ch => exact ⟨q0, rfl, he, this⟩
  | outgrown => exact ⟨q0, rfl, he, this⟩
theorem k_out {ω : Type} {X : ω → Exit × St} {q0 t : ω} {e : Exit} {N : List Nat} (σ : List (Nat × Nat)) (hB : ∀ b p, c.β0 b = some p → mem b N = true) (h : some q0 = some t)
    (he : (X q0).1 = e := by exact rfl) (hσ : okS σ = true := by exact rfl) (hH : pickS σ σ H = some (X q0).2.H := by exact rfl) (hT : Sub (X q0).2.T (mapT (reL σ) T) := by (repeat' first | exact True.intro | exact rfl | exact get_fn rfl (And.left (by assumption)) | exact get_fnk rfl (And.left (by assumption)) | exact get_fnk2 rfl (And.left (by assumption)) | apply And.intro)) (hM : okM σ M (X q0).2.M N = true := by exact rfl) :
    Fin c (Ex X c t) e ⟨T, H, M⟩ := by
  cases h
  exact fun a w hs => ⟨he, hs.to σ hσ hH hT hB hM⟩
theorem k_exit {id : Nat} {s : St} (h : Fin c Q (.exit id) s) : Run c Q (.exit id) s := Run_exit h
theorem k_retc {s : St} (h : Fin c Q .ret s) : Run c Q .ret s := Run_ret h
theorem k_skip {s : St} (h : Fin c Q .normal s) : Run c Q .skip s := Run_skip h
theorem k_block {id : Nat} {x : Code} {s : St} (h : Run c (Exit.inBlock id Q) x s) : Run c Q (.block id x) s := Run_block h
theorem k_ret {ρ : Type} {P : Program} {U : List (Nat × TI)} {hU : TabOk P U} {F : Nat → Prop} {β : Emb} {w0 : World} {N : Nat} {fn : Func} {H' : ρ → List (Nat × AObj)} {Nm mv : List Nat} {v r : ρ} {E : ρ → AV} {r' : AV} (σ : List (Nat × Nat))
    (hN : ∀ b p, β b = some p → mem b Nm = true) (h : some v = some r) (hres : resAV U T H fn.results.toList = some r' := by exact rfl) (hr : r'.mapN (reL σ) = E v := by exact rfl) (hσ : okS σ = true := by exact rfl) (hH : pickS σ σ H = some (H' v) := by exact rfl) (hM : okM σ M mv Nm = true := by exact rfl) :
    Fin ⟨P, U, hU, F, β, w0, N⟩ (bodyPost P fn (Rpost (fun x H'' M' => x = E r ∧ H'' = H' r ∧ M' = mv) F β w0)) .ret ⟨T, H, M⟩ := by
  cases h
  exact fun a w hs => ret_x σ hN hres hσ hr hH hM hs
/-! ### Sums -/
theorem l_addw {t t' : TypeId} {x y : Operand} {k : IntKind} {m n : Int} (hnext : RunL c ops Q rest ⟨(d, .pl (.int k (k.wrap (m + n)))) :: T, H, M⟩) (hx : opv T x = some (.pl (.int k m)) := by exact rfl) (hy : opv T y = some (.pl (.int k n)) := by exact rfl) (hdo : dstOk c.N (some d) = true := by exact rfl) : RunL c ops Q (⟨some d, .binOp .add t x y t', ty, pos, af, none⟩ :: rest) ⟨T, H, M⟩ := RL_int hx hy (fun w' => by simp [binOp, Op.intArith]) hdo hnext
theorem l_subw {t t' : TypeId} {x y : Operand} {k : IntKind} {m n : Int} (hnext : RunL c ops Q rest ⟨(d, .pl (.int k (k.wrap (m - n)))) :: T, H, M⟩) (hx : opv T x = some (.pl (.int k m)) := by exact rfl) (hy : opv T y = some (.pl (.int k n)) := by exact rfl) (hdo : dstOk c.N (some d) = true := by exact rfl) : RunL c ops Q (⟨some d, .binOp .sub t x y t', ty, pos, af, none⟩ :: rest) ⟨T, H, M⟩ := RL_int hx hy (fun w' => by simp [binOp, Op.intArith]) hdo hnext
theorem l_mulw {t t' : TypeId} {x y : Operand} {k : IntKind} {m n : Int} (hnext : RunL c ops Q rest ⟨(d, .pl (.int k (k.wrap (m * n)))) :: T, H, M⟩) (hx : opv T x = some (.pl (.int k m)) := by exact rfl) (hy : opv T y = some (.pl (.int k n)) := by exact rfl) (hdo : dstOk c.N (some d) = true := by exact rfl) : RunL c ops Q (⟨some d, .binOp .mul t x y t', ty, pos, af, none⟩ :: rest) ⟨T, H, M⟩ := RL_int hx hy (fun w' => by simp [binOp, Op.intArith]) hdo hnext
/-! ### Calls -/
theorem l_call {α ρ : Type} {P : Program} {g : Option α} {kk : α → Option ρ} {r : ρ} {E : α → AV} {cl : Call} {k : FuncId} {first cap es args : List AV} (h : g.bind kk = some r) (hs : ∀ v, g = some v → XSpec P k args [] (E v) [] []) (hn : ∀ v, g = some v → kk v = some r → RunL c ops Q rest ⟨(d, E v) :: T, H, M⟩)
    (hP : c.P = P := by exact rfl) (hk : calleeOf T cl.callee = some (k, first, cap) := by exact rfl) (ha : opvL T cl.args.toList = some es := by exact rfl) (hargs : first ++ es ++ cap = args := by exact rfl) (hcl : AV.closedL args = true := by first | exact rfl | (simp only [AV.closedL, AV.closed, AV.onlyL, AV.only, Bool.true_and, Bool.and_true]; first | exact And.left (by assumption) | exact And.right (by assumption))) (hdo : dstOk c.N (some d) = true := by exact rfl) : RunL c ops Q (⟨some d, .call cl, ty, pos, af, none⟩ :: rest) ⟨T, H, M⟩ := by
  obtain ⟨v, hv, h⟩ := bind_some h
  exact RL_pcall (hs v hv).p hP hk ha hargs hcl hdo (hn v hv h)
theorem l_callB {α ρ : Type} {P : Program} {g : Option α} {kk : α → Option ρ} {r : ρ} {E : α → AV} {cl : Call} {k : FuncId} {first cap es args : List AV} (h : g.bind kk = some r) (hs : ∀ v, g = some v → XSpec P k args [] (E v) [] []) (hn : ∀ v, g = some v → kk v = some r → RunL c ops Q rest ⟨(d, E v) :: T, H, M⟩)
    (hP : c.P = P := by exact rfl) (hk : calleeOf T cl.callee = some (k, first, cap) := by exact rfl) (ha : opvL T cl.args.toList = some es := by exact rfl) (hargs : AV.mapNL (brwW H) (first ++ es ++ cap) = args := by exact rfl) (hr : ∀ v, (E v).flat = true := by exact fun _ => rfl) (hdo : dstOk c.N (some d) = true := by exact rfl) : RunL c ops Q (⟨some d, .call cl, ty, pos, af, none⟩ :: rest) ⟨T, H, M⟩ := by
  obtain ⟨v, hv, h⟩ := bind_some h
  subst hP
  exact RL_callB (hs v hv).p hk ha hargs (hr v) hdo (hn v hv h)
theorem l_callX {α ρ : Type} {P : Program} {g : Option α} {kk : α → Option ρ} {r : ρ} {E : α → AV} {Hf H1 H2 : List (Nat × AObj)} {H' : α → List (Nat × AObj)} {mv mv' : List Nat} {cl : Call} {k : FuncId} {first cap es args args0 : List AV} (ws : List (Nat × Nat)) (ns : List Nat) (h : g.bind kk = some r) (hs : ∀ v, g = some v → XSpec P k args Hf (E v) (H' v) mv)
    (hn : ∀ v, g = some v → kk v = some r → RunL c ops Q rest ⟨putT (kiT mv' T) (some d) ((E v).mapN (swL ws)), swH ws (H' v) ++ kiH mv' H2, mv' ++ M⟩) 
    (hmv : mv.map (swp ws) = mv' := by exact rfl) (hP : c.P = P := by exact rfl) (hk : calleeOf T cl.callee = some (k, first, cap) := by exact rfl) (ha : opvL T cl.args.toList = some es := by exact rfl) (ha0 : first ++ es ++ cap = args0 := by exact rfl) (hargs : AV.mapNL (swL ws) args0 = args := by exact rfl) (hH1 : hpick ns H = H1 := by exact rfl) (hHf : swH ws H1 = Hf := by exact rfl)
    (hok : honly ns H1 = true := by exact rfl) (hon : AV.onlyL ns args0 = true := by exact rfl) (hH2 : hrest ns H = H2 := by exact rfl) (hap : ∀ v, hapart (swH ws (H' v)) H2 = true := by exact fun _ => rfl) (hdo : dstOk c.N (some d) = true := by exact rfl) (hw : nodupB (swN ws) = true := by exact rfl) : RunL c ops Q (⟨some d, .call cl, ty, pos, af, none⟩ :: rest) ⟨T, H, M⟩ := by
  obtain ⟨v, hv, h⟩ := bind_some h
  subst hP hmv
  exact RL_callX ns  ((hs v hv).sw ws hw hargs hHf) hk ha ha0 hH1 hok hon hH2 (hap v) hdo (hn v hv h)
/-! ### Rows that nobody writes -/
theorem l_at {α ρ : Type} {l : List α} {e : α → List AV} {kk : α → Option ρ} {r : ρ} {t : TypeId} {x y : Operand} {k : IntKind} {i : Int} {ti ei : TI} {et : TypeId} (h : (at' l i).bind kk = some r) (hn : ∀ a, at' l i = some a → kk a = some r → RunL c ops Q rest ⟨(d, .vptr (e a)) :: T, H, M⟩)
    (ht : tget c.U t = some ti := by exact rfl) (htd : ti.desc = .slice et := by exact rfl) (he : tget c.U et = some ei := by exact rfl) (hx : opv T x = some (.vs l.length (F e l)) := by exact rfl) (hy : opv T y = some (.pl (.int k i)) := by exact rfl) (hz : ∀ a, (e a).length = ei.size := by exact fun _ => rfl) (hdo : dstOk c.N (some d) = true := by exact rfl) : RunL c ops Q (⟨some d, .indexAddr t x y, ty, pos, af, none⟩ :: rest) ⟨T, H, M⟩ := by
  obtain ⟨a, ha, h⟩ := bind_some h
  obtain ⟨h0, hlt, hg⟩ := at'_some ha
  have hi : i.toNat < l.length := by omega
  have hd : (F e l).drop (i.toNat * ei.size) = e a ++ F e (l.drop (i.toNat + 1)) := by
    have := flat_drop hz l i.toNat hi
    rw [List.getElem?_eq_getElem hi] at hg
    cases hg
    exact this
  exact RL_indexAddr_vsD ht htd he hx hy ⟨h0, hlt⟩ hd hdo fun a' w hs => hn a ha h a' w (hs.weak1 (Le_vptr _ _))
/-! ### Texts -/
theorem l_lens {t : TypeId} {x : Operand} {l : List UInt8} {ti : TI} (hnext : RunL c ops Q rest ⟨(d, I (l.length : Int)) :: T, H, M⟩) (ht : tget c.U t = some ti := by exact rfl) (htd : ti.desc = .string := by exact rfl) (hx : opv T x = some (S l) := by exact rfl) (hdo : dstOk c.N (some d) = true := by exact rfl) : RunL c ops Q (⟨some d, .call { callee := .builtin .len, args := #[x], argTypes := #[t] }, ty, pos, af, none⟩ :: rest) ⟨T, H, M⟩ := RL_len_str ht htd hx hdo hnext
theorem l_seq {t t' : TypeId} {x y : Operand} {l m : List UInt8} (hnext : RunL c ops Q rest ⟨(d, B (l == m)) :: T, H, M⟩) (hx : opv T x = some (S l) := by exact rfl) (hy : opv T y = some (S m) := by exact rfl) (hdo : dstOk c.N (some d) = true := by exact rfl) : RunL c ops Q (⟨some d, .binOp .eql t x y t', ty, pos, af, none⟩ :: rest) ⟨T, H, M⟩ := RL_str hx hy (fun w' => by simp [Op.stringOp, ByteArray.toList_eq]) hdo hnext
theorem l_sne {t t' : TypeId} {x y : Operand} {l m : List UInt8} (hnext : RunL c ops Q rest ⟨(d, B (!(l == m))) :: T, H, M⟩) (hx : opv T x = some (S l) := by exact rfl) (hy : opv T y = some (S m) := by exact rfl) (hdo : dstOk c.N (some d) = true := by exact rfl) : RunL c ops Q (⟨some d, .binOp .neq t x y t', ty, pos, af, none⟩ :: rest) ⟨T, H, M⟩ := RL_str hx hy (fun w' => by simp [Op.stringOp, ByteArray.toList_eq]) hdo hnext
theorem l_cat {ρ : Type} {kk : List UInt8 → Option ρ} {r : ρ} {t t' : TypeId} {x y : Operand} {l m : List UInt8} (h : (cat l m).bind kk = some r) (hn : ∀ v, cat l m = some v → kk v = some r → RunL c ops Q rest ⟨(d, S v) :: T, H, M⟩) (hx : opv T x = some (S l) := by exact rfl) (hy : opv T y = some (S m) := by exact rfl) (hdo : dstOk c.N (some d) = true := by exact rfl) : RunL c ops Q (⟨some d, .binOp .add t x y t', ty, pos, af, none⟩ :: rest) ⟨T, H, M⟩ := by
  obtain ⟨v, hv, h⟩ := bind_some h
  have h2 := hn v hv h
  obtain ⟨hl, rfl⟩ := cat_some hv
  exact RL_str hx hy (fun _ => run_cat hl) hdo h2
theorem l_ats {ρ : Type} {kk : UInt8 → Option ρ} {r : ρ} {t : TypeId} {x y : Operand} {l : List UInt8} {k : IntKind} {i : Int} {ti : TI} (h : (at' l i).bind kk = some r) (hn : ∀ a, at' l i = some a → kk a = some r → RunL c ops Q rest ⟨(d, U a) :: T, H, M⟩) (ht : tget c.U t = some ti := by exact rfl) (htd : ti.desc = .string := by exact rfl) (hx : opv T x = some (S l) := by exact rfl) (hy : opv T y = some (.pl (.int k i)) := by exact rfl) (hdo : dstOk c.N (some d) = true := by exact rfl) : RunL c ops Q (⟨some d, .index t x y, ty, pos, af, none⟩ :: rest) ⟨T, H, M⟩ := by
  obtain ⟨a, ha, h⟩ := bind_some h
  have h2 := hn a ha h
  obtain ⟨h0, hlt, hg⟩ := at'_some ha
  have hi : ((i.toNat : Nat) : Int) = i := Int.toNat_of_nonneg h0
  have hb : i.toNat < (ByteArray.mk l.toArray).size := by show i.toNat < l.length; omega
  rw [← hi] at hy
  have e : (ByteArray.mk l.toArray)[i.toNat]'hb = a := by
    rw [List.getElem?_eq_getElem (by exact hb)] at hg
    cases hg; rfl
  exact RL_index_str ht htd hx hy hb hdo (by rw [e]; exact h2)
theorem l_subs {ρ : Type} {kk : List UInt8 → Option ρ} {r : ρ} {t : TypeId} {x : Operand} {lo hi : Option Operand} {l : List UInt8} {i j : Int} {ti : TI} (h : (sub' l i j).bind kk = some r) (hn : ∀ v, sub' l i j = some v → kk v = some r → RunL c ops Q rest ⟨(d, S v) :: T, H, M⟩) (ht : tget c.U t = some ti := by exact rfl) (htd : ti.desc = .string := by exact rfl) (hx : opv T x = some (S l) := by exact rfl) (hlo : bnd T 0 lo = some i := by exact rfl) (hhi : bnd T (l.length : Int) hi = some j := by exact rfl) (hdo : dstOk c.N (some d) = true := by exact rfl) : RunL c ops Q (⟨some d, .slice t x lo hi none, ty, pos, af, none⟩ :: rest) ⟨T, H, M⟩ := by
  obtain ⟨v, hv, h⟩ := bind_some h
  have h2 := hn v hv h
  obtain ⟨h0, h1, h3, rfl⟩ := sub'_some hv
  have hi' : ((i.toNat : Nat) : Int) = i := Int.toNat_of_nonneg h0
  have hj' : ((j.toNat : Nat) : Int) = j := Int.toNat_of_nonneg (by omega)
  rw [← hi'] at hlo
  rw [← hj'] at hhi
  have e : (ByteArray.mk l.toArray).extract i.toNat j.toNat = ⟨((l.drop i.toNat).take (j.toNat - i.toNat)).toArray⟩ := by apply ByteArray.ext; simp
  unfold S at h2
  rw [← e] at h2
  exact RunL_q (s := ⟨T, H, M⟩) (q_slice_str ht htd hx hlo hhi (by omega) (by show j.toNat ≤ l.length; omega)) rfl hdo h2
/-! ### Bytes -/
theorem l_convU {src dst : TypeId} {x : Operand} {k : IntKind} {n : Int} {t1 t2 : TI} (hnext : RunL c ops Q rest ⟨(d, U (u8 n)) :: T, H, M⟩) (h1 : tget c.U src = some t1 := by exact rfl) (h2 : tget c.U dst = some t2 := by exact rfl) (hk : t2.desc = .int .u8 := by exact rfl) (hx : opv T x = some (.pl (.int k n)) := by exact rfl) (hdo : dstOk c.N (some d) = true := by exact rfl) : RunL c ops Q (⟨some d, .convert src dst x, ty, pos, af, none⟩ :: rest) ⟨T, H, M⟩ := RL_conv_int h1 h2 hk hx hdo (by rw [wrap_u8_eq]; exact hnext)
theorem l_bstr {src dst : TypeId} {x : Operand} {l : List UInt8} {t1 t2 ei : TI} {e : TypeId} (hnext : RunL c ops Q rest ⟨(d, S l) :: T, H, M⟩) (h1 : tget c.U src = some t1 := by exact rfl) (hd1 : t1.desc = .slice e := by exact rfl) (he : tget c.U e = some ei := by exact rfl) (hek : ei.desc = .int .u8 := by exact rfl) (h2 : tget c.U dst = some t2 := by exact rfl) (hd2 : t2.desc = .string := by exact rfl) (hx : opv T x = some (.vs l.length (F cU l)) := by exact rfl) (hdo : dstOk c.N (some d) = true := by exact rfl) : RunL c ops Q (⟨some d, .convert src dst x, ty, pos, af, none⟩ :: rest) ⟨T, H, M⟩ := RL_conv_bytes h1 hd1 he hek h2 hd2 hx rfl (F_cU l) rfl hdo hnext
theorem l_bstro {te : TypeId} {src dst : TypeId} {x : Operand} {l : List UInt8} {b fz : Nat} {t1 t2 ei : TI} {e : TypeId} (hnext : RunL c ops Q rest ⟨(d, S l) :: T, H, M⟩) (h1 : tget c.U src = some t1 := by exact rfl) (hd1 : t1.desc = .slice e := by exact rfl) (he : tget c.U e = some ei := by exact rfl) (hek : ei.desc = .int .u8 := by exact rfl) (h2 : tget c.U dst = some t2 := by exact rfl) (hd2 : t2.desc = .string := by exact rfl) (hx : opv T x = some (.sl b 0 l.length) := by exact rfl) (hb : hget H b = some (.row te 1 fz (F cU l)) := by exact rfl) (hdo : dstOk c.N (some d) = true := by exact rfl) : RunL c ops Q (⟨some d, .convert src dst x, ty, pos, af, none⟩ :: rest) ⟨T, H, M⟩ :=
  RL_conv_bytes h1 hd1 he hek h2 hd2 hx (show srcAt H 1 (.sl b 0 l.length) = some (l.length, encB l) by simp only [srcAt, hb, List.drop_zero]; rw [List.take_of_length_le (by rw [F_cU, encB_length]; omega), F_cU]) rfl rfl hdo hnext
/-! ### Slices -/
theorem l_lenn {t : TypeId} {x : Operand} {ti : TI} {et : TypeId} (hnext : RunL c ops Q rest ⟨(d, I 0) :: T, H, M⟩) (ht : tget c.U t = some ti := by exact rfl) (htd : ti.desc = .slice et := by exact rfl) (hx : opv T x = some (.pl (.slice none 0 0)) := by exact rfl) (hdo : dstOk c.N (some d) = true := by exact rfl) : RunL c ops Q (⟨some d, .call { callee := .builtin .len, args := #[x], argTypes := #[t] }, ty, pos, af, none⟩ :: rest) ⟨T, H, M⟩ := RL_len (n := 0) ht htd hx rfl hdo hnext
theorem l_subf {α ρ : Type} {kk : List α → Option ρ} {r : ρ} {t : TypeId} {x : Operand} {lo hi : Option Operand} {l : List α} {e : α → List AV} {i j : Int} {ti ei : TI} {et : TypeId} (h : (sub' l i j).bind kk = some r) (hn : ∀ v, sub' l i j = some v → kk v = some r → RunL c ops Q rest ⟨(d, .vs v.length (F e v)) :: T, H, M⟩) (ht : tget c.U t = some ti := by exact rfl) (htd : ti.desc = .slice et := by exact rfl) (he : tget c.U et = some ei := by exact rfl) (hx : opv T x = some (.vs l.length (F e l)) := by exact rfl) (hlo : bnd T 0 lo = some i := by exact rfl) (hhi : bnd T (l.length : Int) hi = some j := by exact rfl) (hz : ∀ a, (e a).length = ei.size := by exact fun _ => rfl) (hdo : dstOk c.N (some d) = true := by exact rfl) : RunL c ops Q (⟨some d, .slice t x lo hi none, ty, pos, af, none⟩ :: rest) ⟨T, H, M⟩ := by
  obtain ⟨v, hv, h⟩ := bind_some h
  have h2 := hn v hv h
  obtain ⟨h0, h1, h3, rfl⟩ := sub'_some hv
  have hi' : ((i.toNat : Nat) : Int) = i := Int.toNat_of_nonneg h0
  have hj' : ((j.toNat : Nat) : Int) = j := Int.toNat_of_nonneg (by omega)
  rw [← hi'] at hlo
  rw [← hj'] at hhi
  have el : ((l.drop i.toNat).take (j.toNat - i.toNat)).length = j.toNat - i.toNat := by rw [List.length_take, List.length_drop]; omega
  rw [el] at h2
  exact RL_slice_vs ht htd he hx hlo hhi (by omega) (by omega) (F_sub hz l _ _) hdo h2
theorem l_ato {te : TypeId} {α ρ : Type} {l : List α} {e : α → List AV} {kk : α → Option ρ} {r : ρ} {b fz sz : Nat} {t : TypeId} {x y : Operand} {k : IntKind} {i : Int} {ti ei : TI} {et : TypeId} (h : (at' l i).bind kk = some r) (hn : ∀ a, at' l i = some a → kk a = some r → RunL c ops Q rest ⟨(d, .ptr b (i.toNat * sz)) :: T, H, M⟩)
    (ht : tget c.U t = some ti := by exact rfl) (htd : ti.desc = .slice et := by exact rfl) (he : tget c.U et = some ei := by exact rfl) (hsz : ei.size = sz := by exact rfl) (hx : opv T x = some (.sl b 0 l.length) := by exact rfl) (hb : hget H b = some (.row te sz fz (F e l)) := by exact rfl) (hy : opv T y = some (.pl (.int k i)) := by exact rfl) (hdo : dstOk c.N (some d) = true := by exact rfl) : RunL c ops Q (⟨some d, .indexAddr t x y, ty, pos, af, none⟩ :: rest) ⟨T, H, M⟩ := by
  obtain ⟨a, ha, h⟩ := bind_some h
  obtain ⟨h0, hlt, hg⟩ := at'_some ha
  have hi : ((i.toNat : Nat) : Int) = i := Int.toNat_of_nonneg h0
  rw [← hi] at hy
  subst hsz
  exact RunL_q (s := ⟨T, H, M⟩) (q_indexAddr_sl0 ht htd he hx hy (by omega)) rfl hdo (hn a ha h)
theorem l_ldra {te : TypeId} {α : Type} {l : List α} {e : α → List AV} {a : α} {b fz sz : Nat} {i : Int} {t : TypeId} {x : Operand} {ti : TI} (ha : at' l i = some a) (hnext : RunL c ops Q rest ⟨(d, .agg (e a)) :: T, H, M⟩) (ht : tget c.U t = some ti := by exact rfl) (hag : aggD ti.desc = true := by exact rfl) (hx : opv T x = some (.ptr b (i.toNat * sz)) := by exact rfl) (hb : hget H b = some (.row te sz fz (F e l)) := by exact rfl) (hsz : ti.size = sz := by exact rfl) (hz : ∀ a, (e a).length = sz := by exact fun _ => rfl) (hdo : dstOk c.N (some d) = true := by exact rfl) : RunL c ops Q (⟨some d, .load t x, ty, pos, af, none⟩ :: rest) ⟨T, H, M⟩ :=
  RL_load_agg ht hag hx (show memAt H (.ptr b (i.toNat * sz)) = some ((F e l).drop (i.toNat * sz)) by simp only [memAt, hb]) (by rw [hsz]; exact F_take hz ha) (by rw [hsz]; exact hz a) hdo hnext
theorem l_lit {α : Type} {e : α → List AV} (l : List α) {t : TypeId} {n : Nat} {parts : Array (Nat × Operand)} {axs : List AV} {ti ei : TI} {et k : Nat} (hnext : RunL c ops Q rest ⟨(d, .sl (nm (some d)) 0 l.length) :: T, (nm (some d), .row et k 0 (F e l)) :: H, M⟩) (ht : tget c.U t = some ti := by exact rfl) (htd : ti.desc = .slice et := by exact rfl) (he : tget c.U et = some ei := by exact rfl) (hk : ei.size = k := by exact rfl) (hk0 : Nat.blt 0 k = true := by exact rfl) (hzs : ei.zero.cells.size = k := by exact rfl) (hparts : seqB 0 parts.toList = true := by exact rfl) (hn : parts.toList.length = n := by exact rfl) (hn0 : Nat.blt 0 n = true := by exact rfl) (hx : opvL T (parts.toList.map (·.2)) = some axs := by exact rfl) (hfit : fitAll k axs = true := by exact rfl) (hcs : cellsL axs = F e l := by exact rfl) (hl : l.length = n := by exact rfl) (hlim : Nat.ble (n * k) (2 ^ 24) = true := by exact rfl) (hb : hget H (nm (some d)) = none := by exact rfl) (hdo : dstOk c.N (some d) = true := by exact rfl) : RunL c ops Q (⟨some d, .buildSlice t n parts, ty, pos, af, none⟩ :: rest) ⟨T, H, M⟩ :=
  RL_buildSliceN ht htd he hk hk0 hzs hparts hn hn0 hx hfit hcs hlim hb hdo (by rw [← hl]; exact hnext)
theorem l_appf {α ρ : Type} {e : α → List AV} {kk : List α → Option ρ} {r : ρ} {l m : List α} {sz b k : Nat} {t : TypeId} {x y : Operand} {ti ei : TI} {et : TypeId} (h : (app sz l m).bind kk = some r) (hn : ∀ v, app sz l m = some v → kk v = some r → RunL c ops Q rest ⟨(d, .sl b 0 v.length) :: killT b T, (b, .row et k 0 (F e v)) :: killH b H, b :: M⟩)  (ht : tget c.U t = some ti := by exact rfl) (htd : ti.desc = .slice et := by exact rfl) (he : tget c.U et = some ei := by exact rfl) (hk : ei.size = k := by exact rfl) (hzs : ei.zero.cells.size = k := by exact rfl) (hbb : ei.bytes = sz := by exact rfl) (hbp : Nat.blt 0 sz = true := by exact rfl) (hx : opv T x = some (.sl b 0 l.length) := by exact rfl) (hb : hget H b = some (.row et k 0 (F e l)) := by exact rfl) (hy : opv T y = some (.vs m.length (F e m)) := by exact rfl) (hz : ∀ a, (e a).length = k := by exact fun _ => rfl) (hdo : dstOk c.N (some d) = true := by exact rfl) : RunL c ops Q (⟨some d, .call { callee := .builtin .append, args := #[x, y], argTypes := #[t, t] }, ty, pos, af, none⟩ :: rest) ⟨T, H, M⟩ := by
  obtain ⟨v, hv, h⟩ := bind_some h
  have h2 := hn v hv h
  obtain ⟨hl, rfl⟩ := app_some hv
  subst hbb
  have hbp : 0 < ei.bytes := by simpa [Nat.blt_eq] using hbp
  rw [List.length_append, F_app hz] at h2
  exact RL_append ht htd he hk hzs hbp hx hb (by rw [F_length hz]; omega) (Nat.zero_le _) hy rfl (F_length hz m) hl hdo  h2
theorem l_appo {te' : TypeId} {α ρ : Type} {e : α → List AV} {kk : List α → Option ρ} {r : ρ} {l m : List α} {sz b b' k fz' : Nat} {t : TypeId} {x y : Operand} {ti ei : TI} {et : TypeId} (h : (app sz l m).bind kk = some r) (hn : ∀ v, app sz l m = some v → kk v = some r → RunL c ops Q rest ⟨(d, .sl b 0 v.length) :: killT b T, (b, .row et k 0 (F e v)) :: killH b H, b :: M⟩)  (ht : tget c.U t = some ti := by exact rfl) (htd : ti.desc = .slice et := by exact rfl) (he : tget c.U et = some ei := by exact rfl) (hk : ei.size = k := by exact rfl) (hzs : ei.zero.cells.size = k := by exact rfl) (hbb : ei.bytes = sz := by exact rfl) (hbp : Nat.blt 0 sz = true := by exact rfl) (hx : opv T x = some (.sl b 0 l.length) := by exact rfl) (hb : hget H b = some (.row et k 0 (F e l)) := by exact rfl) (hy : opv T y = some (.sl b' 0 m.length) := by exact rfl) (hb' : hget H b' = some (.row te' k fz' (F e m)) := by exact rfl) (hz : ∀ a, (e a).length = k := by exact fun _ => rfl) (hdo : dstOk c.N (some d) = true := by exact rfl) : RunL c ops Q (⟨some d, .call { callee := .builtin .append, args := #[x, y], argTypes := #[t, t] }, ty, pos, af, none⟩ :: rest) ⟨T, H, M⟩ := by
  obtain ⟨v, hv, h⟩ := bind_some h
  have h2 := hn v hv h
  obtain ⟨hl, rfl⟩ := app_some hv
  subst hbb
  have hbp : 0 < ei.bytes := by simpa [Nat.blt_eq] using hbp
  rw [List.length_append, F_app hz] at h2
  exact RL_append ht htd he hk hzs hbp hx hb (by rw [F_length hz]; omega) (Nat.zero_le _) hy (show srcAt H k (.sl b' 0 m.length) = some (m.length, F e m) by simp only [srcAt, hb', List.drop_zero]; rw [List.take_of_length_le (by rw [F_length hz]; omega)]) (F_length hz m) hl hdo  h2
theorem l_apps {ρ : Type} {kk : Str → Option ρ} {r : ρ} {l m : Str} {sz b : Nat} {t t2 : TypeId} {x y : Operand} {ti ti2 ei : TI} {et : TypeId} (h : (app sz l m).bind kk = some r) (hn : ∀ v, app sz l m = some v → kk v = some r → RunL c ops Q rest ⟨(d, .sl b 0 v.length) :: killT b T, (b, .row et 1 0 (F cU v)) :: killH b H, b :: M⟩)  (ht : tget c.U t = some ti := by exact rfl) (htd : ti.desc = .slice et := by exact rfl) (ht2 : tget c.U t2 = some ti2 := by exact rfl) (ht2d : ti2.desc = .string := by exact rfl) (he : tget c.U et = some ei := by exact rfl) (hk : ei.size = 1 := by exact rfl) (hzs : ei.zero.cells.size = 1 := by exact rfl) (hbb : ei.bytes = sz := by exact rfl) (hbp : Nat.blt 0 sz = true := by exact rfl) (hx : opv T x = some (.sl b 0 l.length) := by exact rfl) (hb : hget H b = some (.row et 1 0 (F cU l)) := by exact rfl) (hy : opv T y = some (S m) := by exact rfl) (hdo : dstOk c.N (some d) = true := by exact rfl) : RunL c ops Q (⟨some d, .call { callee := .builtin .append, args := #[x, y], argTypes := #[t, t2] }, ty, pos, af, none⟩ :: rest) ⟨T, H, M⟩ := by
  obtain ⟨v, hv, h⟩ := bind_some h
  have h2 := hn v hv h
  obtain ⟨hl, rfl⟩ := app_some hv
  subst hbb
  have hbp : 0 < ei.bytes := by simpa [Nat.blt_eq] using hbp
  have e1 : ∀ q : Str, F cU q = q.map fun u => AV.pl (.int .u8 (u.toNat : Int)) := fun q => by
    induction q with
    | nil => rfl
    | cons a v ih => rw [List.map_cons, ← ih]; rfl
  have e2 : putT (killT b T) (some d) (.sl b 0 (l.length + (⟨m.toArray⟩ : ByteArray).size)) = (d, .sl b 0 (l ++ m).length) :: killT b T := by rw [List.length_append]; rfl
  have e3 : ((F cU l).drop 0).take (l.length * 1) ++ ((⟨m.toArray⟩ : ByteArray).data.toList.map fun u => AV.pl (.int .u8 (u.toNat : Int))) = F cU (l ++ m) := by
    rw [e1, e1, List.drop_zero, List.take_of_length_le (by simp), List.map_append]
  have hE := e_appendS (c := c) (s := ⟨T, H, M⟩) (d := some d) (ty := ty) (pos := pos) (af := af) (g := none) (n := l.length) ht htd ht2 ht2d he hk hzs hbp hx hb (by rw [e1]; simp) (Nat.zero_le _) hy hl hdo
  rw [e2, e3] at hE
  exact RunL_e (s := ⟨T, H, M⟩) hE rfl h2
/-! ### More -/
theorem l_nat {r : AV} {cl : Call} {k : FuncId} {first cap es args : List AV} {P : Program} (hs : NSpec P k args r) (hnext : RunL c ops Q rest ⟨(d, r) :: T, H, M⟩) (hP : c.P = P := by exact rfl) (hk : calleeOf T cl.callee = some (k, first, cap) := by exact rfl) (ha : opvL T cl.args.toList = some es := by exact rfl) (hargs : first ++ es ++ cap = args := by exact rfl) (hdo : dstOk c.N (some d) = true := by exact rfl) : RunL c ops Q (⟨some d, .call cl, ty, pos, af, none⟩ :: rest) ⟨T, H, M⟩ := by
  subst hP hargs
  exact RunL_q (s := ⟨T, H, M⟩) (q_native hs hk ha) rfl hdo hnext
theorem l_callN {α ρ : Type} {P : Program} {g : Option α} {kk : α → Option ρ} {r : ρ} {E : α → AV} {cl : Call} {k : FuncId} {first cap es args : List AV} (h : g.bind kk = some r) (hs : ∀ v, g = some v → XSpec P k args [] (E v) [] []) (hn : ∀ v, g = some v → kk v = some r → RunL c ops Q rest ⟨(d, E v) :: T, H, M⟩)
    (hP : c.P = P := by exact rfl) (hk : calleeOf T cl.callee = some (k, first, cap) := by exact rfl) (ha : opvL T cl.args.toList = some es := by exact rfl) (hargs : nilNL (first ++ es ++ cap) = args := by exact rfl) (hcl : AV.closedL (first ++ es ++ cap) = true := by exact rfl) (hdo : dstOk c.N (some d) = true := by exact rfl) : RunL c ops Q (⟨some d, .call cl, ty, pos, af, none⟩ :: rest) ⟨T, H, M⟩ := by
  obtain ⟨v, hv, h⟩ := bind_some h
  exact RL_pcall ((hs v hv).nilN hargs).p hP hk ha rfl hcl hdo (hn v hv h)
theorem l_callF {α ρ : Type} {P : Program} {g : Option α} {kk : α → Option ρ} {r : ρ} {E : α → AV} {cl : Call} {k : FuncId} {cap es args : List AV} (hc : AV.closedL cap = true ∧ AV.onlyL [] cap = true) (h : g.bind kk = some r) (hs : ∀ v, g = some v → XSpec P k args [] (E v) [] []) (hn : ∀ v, g = some v → kk v = some r → RunL c ops Q rest ⟨(d, E v) :: T, H, M⟩)
    (hP : c.P = P := by exact rfl) (hk : calleeOf T cl.callee = some (k, [], cap) := by exact rfl) (ha : opvL T cl.args.toList = some es := by exact rfl) (hargs : [] ++ es ++ cap = args := by exact rfl) (hcl : AV.closedL es = true := by exact rfl) (hdo : dstOk c.N (some d) = true := by exact rfl) : RunL c ops Q (⟨some d, .call cl, ty, pos, af, none⟩ :: rest) ⟨T, H, M⟩ := by
  obtain ⟨v, hv, h⟩ := bind_some h
  subst hargs
  exact RL_pcall (hs v hv).p hP hk ha rfl (by rw [List.nil_append]; exact closedL_app hcl hc.1) hdo (hn v hv h)
theorem l_min2 {x y : Operand} {argTs : Array TypeId} {k : IntKind} {m n : Int} (hnext : RunL c ops Q rest ⟨(d, .pl (.int k (mn m n))) :: T, H, M⟩) (hx : opv T x = some (.pl (.int k m)) := by exact rfl) (hy : opv T y = some (.pl (.int k n)) := by exact rfl) (hdo : dstOk c.N (some d) = true := by exact rfl) : RunL c ops Q (⟨some d, .call { callee := .builtin .min, args := #[x, y], argTypes := argTs }, ty, pos, af, none⟩ :: rest) ⟨T, H, M⟩ := RunL_q (s := ⟨T, H, M⟩) (q_min2 hx hy) rfl hdo hnext
theorem l_max2 {x y : Operand} {argTs : Array TypeId} {k : IntKind} {m n : Int} (hnext : RunL c ops Q rest ⟨(d, .pl (.int k (mx m n))) :: T, H, M⟩) (hx : opv T x = some (.pl (.int k m)) := by exact rfl) (hy : opv T y = some (.pl (.int k n)) := by exact rfl) (hdo : dstOk c.N (some d) = true := by exact rfl) : RunL c ops Q (⟨some d, .call { callee := .builtin .max, args := #[x, y], argTypes := argTs }, ty, pos, af, none⟩ :: rest) ⟨T, H, M⟩ := RunL_q (s := ⟨T, H, M⟩) (q_max2 hx hy) rfl hdo hnext
theorem l_remC {t t' : TypeId} {x y : Operand} {k : IntKind} {m n : Int} (hnext : RunL c ops Q rest ⟨(d, .pl (.int k (m.tmod n))) :: T, H, M⟩) (hx : opv T x = some (.pl (.int k m)) := by exact rfl) (hy : opv T y = some (.pl (.int k n)) := by exact rfl) (hn : (n == 0) = false := by exact rfl) (hdo : dstOk c.N (some d) = true := by exact rfl) : RunL c ops Q (⟨some d, .binOp .rem t x y t', ty, pos, af, none⟩ :: rest) ⟨T, H, M⟩ := RunL_q (s := ⟨T, H, M⟩) (q_rem hx hy hn) rfl hdo hnext
theorem l_range {t : TypeId} {x : Operand} {l : List UInt8} {ti : TI} (hnext : RunL c ops Q rest ⟨(d, .it (nm (some d))) :: T, (nm (some d), .siter ⟨l.toArray⟩ 0) :: H, M⟩) (ht : tget c.U t = some ti := by exact rfl) (htd : ti.desc = .string := by exact rfl) (hx : opv T x = some (S l) := by exact rfl) (hb : hget H (nm (some d)) = none := by exact rfl) (hdo : dstOk c.N (some d) = true := by exact rfl) : RunL c ops Q (⟨some d, .range t x, ty, pos, af, none⟩ :: rest) ⟨T, H, M⟩ := RunL_e (s := ⟨T, H, M⟩) (e_range ht htd hx hb hdo).e rfl hnext
theorem l_strb {src dst e : TypeId} {x : Operand} {l : List UInt8} {t1 t2 ei : TI} (hnext : RunL c ops Q rest ⟨(d, .sl (nm (some d)) 0 l.length) :: T, (nm (some d), .row e 1 0 (F cU l)) :: H, M⟩) (h1 : tget c.U src = some t1 := by exact rfl) (hd1 : t1.desc = .string := by exact rfl) (h2 : tget c.U dst = some t2 := by exact rfl) (hd2 : t2.desc = .slice e := by exact rfl) (he : tget c.U e = some ei := by exact rfl) (hek : ei.desc = .int .u8 := by exact rfl) (hx : opv T x = some (S l) := by exact rfl) (hb : hget H (nm (some d)) = none := by exact rfl) (hdo : dstOk c.N (some d) = true := by exact rfl) : RunL c ops Q (⟨some d, .convert src dst x, ty, pos, af, none⟩ :: rest) ⟨T, H, M⟩ := by
  rw [F_cU] at hnext
  exact RunL_e (s := ⟨T, H, M⟩) (e_strb h1 hd1 h2 hd2 he hek hx hb hdo).e rfl hnext
theorem l_ldr0 {te : TypeId} {α : Type} {l : List α} {e : α → List AV} {a : α} {b fz sz : Nat} {i : Int} {t : TypeId} {x : Operand} {ay : AV} {ti : TI} (ha : at' l i = some a) (hnext : RunL c ops Q rest ⟨(d, ay) :: T, H, M⟩) (ht : tget c.U t = some ti := by exact rfl) (hag : aggD ti.desc = false := by exact rfl) (hx : opv T x = some (.ptr b (i.toNat * sz)) := by exact rfl) (hb : hget H b = some (.row te sz fz (F e l)) := by exact rfl) (hz : ∀ a, (e a).length = sz := by exact fun _ => rfl) (hc : (e a)[0]? = some ay := by exact rfl) (hdo : dstOk c.N (some d) = true := by exact rfl) : RunL c ops Q (⟨some d, .load t x, ty, pos, af, none⟩ :: rest) ⟨T, H, M⟩ :=
  RL_load ht hag hx (show memAt H (.ptr b (i.toNat * sz)) = some ((F e l).drop (i.toNat * sz)) by simp only [memAt, hb]) (F_head (o := 0) hz ha hc) hdo hnext
/-! ### Pointers that may be nil -/
theorem l_pnil {op : BinOp} {t t' : TypeId} {x : Operand} {cs : List AV} {z r : Bool} {ti : TI} {et : TypeId} (hnext : RunL c ops Q rest ⟨(d, B r) :: T, H, M⟩) (ht : tget c.U t = some ti := by exact rfl) (htd : ti.desc = .pointer et := by exact rfl) (hx : opv T x = some (.optr z cs) := by exact rfl) (hop : (op = .eql ∧ r = z) ∨ (op = .neq ∧ r = !z) := by first | exact Or.inl ⟨rfl, rfl⟩ | exact Or.inr ⟨rfl, rfl⟩) (hdo : dstOk c.N (some d) = true := by exact rfl) : RunL c ops Q (⟨some d, .binOp op t x (.const (.pointer none)) t', ty, pos, af, none⟩ :: rest) ⟨T, H, M⟩ := RunL_q (s := ⟨T, H, M⟩) (q_ptrnil ht htd hx (.inl ⟨_, rfl⟩) hop) rfl hdo hnext
theorem l_pnilp {op : BinOp} {t t' : TypeId} {x : Operand} {b o : Nat} {z r : Bool} {ti : TI} {et : TypeId} (hnext : RunL c ops Q rest ⟨(d, B r) :: T, H, M⟩) (ht : tget c.U t = some ti := by exact rfl) (htd : ti.desc = .pointer et := by exact rfl) (hx : opv T x = some (.nptr z b o) := by exact rfl) (hop : (op = .eql ∧ r = z) ∨ (op = .neq ∧ r = !z) := by first | exact Or.inl ⟨rfl, rfl⟩ | exact Or.inr ⟨rfl, rfl⟩) (hdo : dstOk c.N (some d) = true := by exact rfl) : RunL c ops Q (⟨some d, .binOp op t x (.const (.pointer none)) t', ty, pos, af, none⟩ :: rest) ⟨T, H, M⟩ := RunL_q (s := ⟨T, H, M⟩) (q_ptrnil ht htd hx (.inr (.inl ⟨_, _, rfl⟩)) hop) rfl hdo hnext
theorem l_deref {α ρ : Type} {p : Option α} {e : α → List AV} {kk : α → Option ρ} {r : ρ} {x : Operand} (h : p.bind kk = some r) (hn : ∀ v, p = some v → kk v = some r → RunL c ops Q rest ⟨(d, .vptr (e v)) :: T, H, M⟩) (hx : opv T x = some (oP e p) := by exact rfl) (hdo : dstOk c.N (some d) = true := by exact rfl) : RunL c ops Q (⟨some d, .nilCheck x, ty, pos, af, none⟩ :: rest) ⟨T, H, M⟩ := by
  obtain ⟨v, hv, h⟩ := bind_some h
  have hx' : opv T x = some (.vptr (e v)) := by rw [hx, hv]; rfl
  exact RunL_q (s := ⟨T, H, M⟩) (q_nilCheck hx' rfl) rfl hdo (hn v hv h)
/-! ### Bits -/
theorem l_shrC {t t' : TypeId} {x y : Operand} {k k' : IntKind} {m n r : Int} (hnext : RunL c ops Q rest ⟨(d, .pl (.int k r)) :: T, H, M⟩) (hx : opv T x = some (.pl (.int k m)) := by exact rfl) (hy : opv T y = some (.pl (.int k' n)) := by exact rfl) (hr : W.shr k.bits m n = some r := by exact rfl) (hdo : dstOk c.N (some d) = true := by exact rfl) : RunL c ops Q (⟨some d, .binOp .shr t x y t', ty, pos, af, none⟩ :: rest) ⟨T, H, M⟩ := RunL_q (s := ⟨T, H, M⟩) (q_shr hx hy hr) rfl hdo hnext
theorem l_shlC {t t' : TypeId} {x y : Operand} {k k' : IntKind} {m n r : Int} (hnext : RunL c ops Q rest ⟨(d, .pl (.int k (k.wrap r))) :: T, H, M⟩) (hx : opv T x = some (.pl (.int k m)) := by exact rfl) (hy : opv T y = some (.pl (.int k' n)) := by exact rfl) (hr : W.shl k.bits m n = some r := by exact rfl) (hdo : dstOk c.N (some d) = true := by exact rfl) : RunL c ops Q (⟨some d, .binOp .shl t x y t', ty, pos, af, none⟩ :: rest) ⟨T, H, M⟩ := RunL_q (s := ⟨T, H, M⟩) (q_shl hx hy hr) rfl hdo hnext
theorem l_bits {op : BinOp} {t t' : TypeId} {x y : Operand} {k : IntKind} {m n r : Int} (hnext : RunL c ops Q rest ⟨(d, .pl (.int k (k.wrap r))) :: T, H, M⟩) (hx : opv T x = some (.pl (.int k m)) := by exact rfl) (hy : opv T y = some (.pl (.int k n)) := by exact rfl) (hr : bitsOf op k.bits m n = some r := by exact rfl) (hdo : dstOk c.N (some d) = true := by exact rfl) : RunL c ops Q (⟨some d, .binOp op t x y t', ty, pos, af, none⟩ :: rest) ⟨T, H, M⟩ := RunL_q (s := ⟨T, H, M⟩) (q_bits hx hy hr) rfl hdo hnext
/-! ### Parts of rows -/
theorem l_sub0 {te : TypeId} {ρ : Type} {kk : Unit → Option ρ} {r : ρ} {t : TypeId} {x : Operand} {lo hi : Option Operand} {b n k fz : Nat} {i j : Int} {cs : List AV} {ti ei : TI} {et : TypeId} (h : (rng (n : Int) i j).bind kk = some r) (hn : kk () = some r → RunL c ops Q rest ⟨(d, .sl b (i.toNat * k) (j.toNat - i.toNat)) :: T, H, M⟩) (ht : tget c.U t = some ti := by exact rfl) (htd : ti.desc = .slice et := by exact rfl) (he : tget c.U et = some ei := by exact rfl) (hx : opv T x = some (.sl b 0 n) := by exact rfl) (hb : hget H b = some (.row te k fz cs) := by exact rfl) (hk : ei.size = k := by exact rfl) (hlo : bnd T 0 lo = some i := by exact rfl) (hhi : bnd T (n : Int) hi = some j := by exact rfl) (hdo : dstOk c.N (some d) = true := by exact rfl) : RunL c ops Q (⟨some d, .slice t x lo hi none, ty, pos, af, none⟩ :: rest) ⟨T, H, M⟩ := by
  obtain ⟨u, hv, h⟩ := bind_some h
  obtain ⟨h1, h2, h3⟩ := rng_some hv
  exact RunL_q (s := ⟨T, H, M⟩) (q_slice_part ht htd he hx hb hk (l := i.toNat) (h := j.toNat) (by rw [hlo]; congr 1; omega) (by rw [hhi]; congr 1; omega) (by omega) (by omega) (by rw [Nat.zero_add])) rfl hdo (hn h)
theorem l_put {te : TypeId} {α ρ : Type} {l : List α} {e : α → List AV} {a a' : α} {kk : List α → Option ρ} {r : ρ} {t : TypeId} {x y : Operand} {ay : AV} {es : List AV} {b o sz : Nat} {i : Int} {ti : TI} (ha : at' l i = some a) (h : (put l i a').bind kk = some r) (hn : ∀ v, v.length = l.length → kk v = some r → RunL c ops Q rest ⟨T, hset H b (.row te sz 0 (F e v)), M⟩)  (ht : tget c.U t = some ti := by exact rfl) (hx : opv T x = some (.ptr b (i.toNat * sz + o)) := by exact rfl) (hy : opv T y = some ay := by exact rfl) (hes : cellsA ay = es := by exact rfl) (hf : fit ay = true := by exact rfl) (hl : es.length = ti.size := by exact rfl) (hcl : AV.closedL es = true := by exact rfl) (hb : hget H b = some (.row te sz 0 (F e l)) := by exact rfl) (hz : ∀ a, (e a).length = sz := by exact fun _ => rfl) (hpos : Nat.blt 0 ti.size = true := by exact rfl) (hin : Nat.ble (o + es.length) sz = true := by exact rfl) (hu : updL (e a) o es = e a' := by exact rfl) : RunL c ops Q (⟨none, .store t x y, ty, pos, af, none⟩ :: rest) ⟨T, H, M⟩ := by
  obtain ⟨v, hv, h⟩ := bind_some h
  obtain ⟨h0, hlt, rfl⟩ := put_some hv
  have hin := Nat.le_of_ble_eq_true hin
  have hpos : 0 < ti.size := by simpa [Nat.blt_eq] using hpos
  have h2 := hn _ (by simp) h
  rw [← F_put hz ha hin hu] at h2
  have hi : i.toNat < l.length := by omega
  have hle : i.toNat * sz + sz ≤ l.length * sz := by rw [← Nat.succ_mul]; exact Nat.mul_le_mul_right _ hi
  exact RunL_e (s := ⟨T, H, M⟩) (e_store_row ht hx hy hes hf hl hcl hb (Nat.zero_le _) (by rw [F_length hz]; omega) hpos rfl) rfl h2
theorem l_put0 {te : TypeId} {α ρ : Type} {l : List α} {e : α → List AV} {a a' : α} {kk : List α → Option ρ} {r : ρ} {t : TypeId} {x y : Operand} {ay : AV} {es : List AV} {b sz : Nat} {i : Int} {ti : TI} (ha : at' l i = some a) (h : (put l i a').bind kk = some r) (hn : ∀ v, v.length = l.length → kk v = some r → RunL c ops Q rest ⟨T, hset H b (.row te sz 0 (F e v)), M⟩)  (ht : tget c.U t = some ti := by exact rfl) (hx : opv T x = some (.ptr b (i.toNat * sz)) := by exact rfl) (hy : opv T y = some ay := by exact rfl) (hes : cellsA ay = es := by exact rfl) (hf : fit ay = true := by exact rfl) (hl : es.length = ti.size := by exact rfl) (hcl : AV.closedL es = true := by exact rfl) (hb : hget H b = some (.row te sz 0 (F e l)) := by exact rfl) (hz : ∀ a, (e a).length = sz := by exact fun _ => rfl) (hpos : Nat.blt 0 ti.size = true := by exact rfl) (hin : Nat.ble es.length sz = true := by exact rfl) (hu : updL (e a) 0 es = e a' := by exact rfl) : RunL c ops Q (⟨none, .store t x y, ty, pos, af, none⟩ :: rest) ⟨T, H, M⟩ :=
  l_put (o := 0) ha h hn  ht hx hy hes hf hl hcl hb hz hpos (by rw [Nat.zero_add]; exact hin) hu
theorem l_make {α ρ : Type} {e : α → List AV} {z : α} {kk : List α → Option ρ} {r : ρ} {t : TypeId} {x y : Operand} {kx ky : IntKind} {l : Int} {sz by_ : Nat} {ti ei : TI} {et : TypeId} (h : (W.mk by_ l z).bind kk = some r) (hn : ∀ v, v.length = l.toNat → kk v = some r → RunL c ops Q rest ⟨(d, .sl (nm (some d)) 0 v.length) :: T, (nm (some d), .row et sz 0 (F e v)) :: H, M⟩) (ht : tget c.U t = some ti := by exact rfl) (htd : ti.desc = .slice et := by exact rfl) (he : tget c.U et = some ei := by exact rfl) (hk : ei.size = sz := by exact rfl) (hby : ei.bytes = by_ := by exact rfl) (hx : opv T x = some (.pl (.int kx l)) := by exact rfl) (hy : opv T y = some (.pl (.int ky l)) := by exact rfl) (hz : ∀ a, (e a).length = sz := by exact fun _ => rfl) (hcs2 : cellsA (ofVal ei.zero) = e z := by exact rfl) (hf : fit (ofVal ei.zero) = true := by exact rfl) (hcl : AV.closedL (e z) = true := by exact rfl) (hpos : Nat.blt 0 sz = true := by exact rfl) (hb : hget H (nm (some d)) = none := by exact rfl) (hdo : dstOk c.N (some d) = true := by exact rfl) : RunL c ops Q (⟨some d, .makeSlice t x y, ty, pos, af, none⟩ :: rest) ⟨T, H, M⟩ := by
  subst hby
  obtain ⟨v, hv, h⟩ := bind_some h
  obtain ⟨h0, h1, h2, rfl⟩ := mk_some hv
  have hpos : 0 < sz := by simpa [Nat.blt_eq] using hpos
  have h3 := hn _ (by simp) h
  rw [← F_rep, List.length_replicate] at h3
  have hop := e_makeSlice (s := ⟨T, H, M⟩) (d := some d) (ty := ty) (pos := pos) (af := af) (g := none) ht htd he hk hpos hx hy hcs2 hf hcl (hz z) h0 (Int.le_refl _) h1 h2 hb hdo
  exact RunL_e (s := ⟨T, H, M⟩) hop.e rfl h3
theorem l_bitsU {op : BinOp} {t t' : TypeId} {x y : Operand} {m n r : Int} (hnext : RunL c ops Q rest ⟨(d, U (u8 r)) :: T, H, M⟩) (hx : opv T x = some (.pl (.int .u8 m)) := by exact rfl) (hy : opv T y = some (.pl (.int .u8 n)) := by exact rfl) (hr : bitsOf op 8 m n = some r := by exact rfl) (hdo : dstOk c.N (some d) = true := by exact rfl) : RunL c ops Q (⟨some d, .binOp op t x y t', ty, pos, af, none⟩ :: rest) ⟨T, H, M⟩ := l_bits (k := .u8) (by rw [wrap_u8_eq]; exact hnext) hx hy hr hdo
theorem l_shrU {t t' : TypeId} {x y : Operand} {k' : IntKind} {n : Int} (a : UInt8) (q : Nat) (hnext : RunL c ops Q rest ⟨(d, U (u8 ((a.toNat : Int).fdiv (2 ^ q)))) :: T, H, M⟩) (hx : opv T x = some (U a) := by exact rfl) (hy : opv T y = some (.pl (.int k' n)) := by exact rfl) (hr : W.shr 8 (a.toNat : Int) n = some ((a.toNat : Int).fdiv (2 ^ q)) := by exact rfl) (hdo : dstOk c.N (some d) = true := by exact rfl) : RunL c ops Q (⟨some d, .binOp .shr t x y t', ty, pos, af, none⟩ :: rest) ⟨T, H, M⟩ := l_shrC (k := .u8) (by rw [shr_u8_eq]; exact hnext) hx hy hr hdo
theorem l_atg {α ρ : Type} {l : List α} {e : α → List AV} {ev : α → List Value} {kk : α → Option ρ} {r : ρ} (j : Nat) {b n k : Nat} {t : TypeId} {x y : Operand} {kx : IntKind} {i : Int} {ti ei : TI} {et : TypeId} (h : (at' l i).bind kk = some r) (hn : ∀ a, at' l i = some a → kk a = some r → RunL c ops Q rest ⟨(d, .vptr (e a)) :: T, H, M⟩)
    (ht : tget c.U t = some ti := by exact rfl) (htd : ti.desc = .array n et := by exact rfl) (he : tget c.U et = some ei := by exact rfl) (hk : ei.size = k := by exact rfl) (hx : opv T x = some (.pl (.pointer (some ⟨b, 0, none⟩))) := by exact rfl) (hy : opv T y = some (.pl (.int kx i)) := by exact rfl) (htab : GTab.tab[j]? = some (b, l.flatMap ev) := by exact rfl) (hln : l.length = n := by exact rfl) (hz : ∀ a, (ev a).length = k := by exact fun _ => rfl) (hev : ∀ a, (ev a).map AV.pl = e a := by exact fun _ => rfl) (hdo : dstOk c.N (some d) = true := by exact rfl) : RunL c ops Q (⟨some d, .indexAddr t x y, ty, pos, af, none⟩ :: rest) ⟨T, H, M⟩ := by
  obtain ⟨a, ha, h⟩ := bind_some h
  obtain ⟨h0, hlt, hg⟩ := at'_some ha
  have hi : i.toNat < l.length := by omega
  have hla : l[i.toNat] = a := by rw [List.getElem?_eq_getElem hi] at hg; exact Option.some.inj hg
  exact RunL_q (s := ⟨T, H, M⟩) (s_indexGlob (ds := e a) ht htd he hk hx hy htab (by omega) (fun m z hm => by
    rw [← hev a, List.getElem?_map, Option.map_eq_some_iff] at hm
    obtain ⟨v, hv, rfl⟩ := hm
    refine ⟨v, ?_, rfl⟩
    rw [flat_at hz l i.toNat m hi (by rw [← hz a]; exact (List.getElem?_eq_some_iff.1 hv).1), hla]; exact hv)).later rfl hdo (hn a ha h)
theorem l_sub3 {α ρ : Type} {kk : List α → Option ρ} {r : ρ} {t : TypeId} {x y z : Operand} {lo : Option Operand} {l : List α} {e : α → List AV} {i j q : Int} {ky kz : IntKind} {ti ei : TI} {et : TypeId} (h : (W.sub3 l i j q).bind kk = some r) (hn : ∀ v, W.sub3 l i j q = some v → kk v = some r → RunL c ops Q rest ⟨(d, .vs v.length (F e v)) :: T, H, M⟩) (ht : tget c.U t = some ti := by exact rfl) (htd : ti.desc = .slice et := by exact rfl) (he : tget c.U et = some ei := by exact rfl) (hx : opv T x = some (.vs l.length (F e l)) := by exact rfl) (hlo : bnd T 0 lo = some i := by exact rfl) (hy : opv T y = some (.pl (.int ky j)) := by exact rfl) (hz0 : opv T z = some (.pl (.int kz q)) := by exact rfl) (hz : ∀ a, (e a).length = ei.size := by exact fun _ => rfl) (hdo : dstOk c.N (some d) = true := by exact rfl) : RunL c ops Q (⟨some d, .slice t x lo (some y) (some z), ty, pos, af, none⟩ :: rest) ⟨T, H, M⟩ := by
  obtain ⟨v, hv, h⟩ := bind_some h
  have h2 := hn v hv h
  obtain ⟨hq1, hq2, hs⟩ := W.sub3_some hv
  obtain ⟨h0, h1, h3, rfl⟩ := sub'_some hs
  have hi' : ((i.toNat : Nat) : Int) = i := Int.toNat_of_nonneg h0
  have hj' : ((j.toNat : Nat) : Int) = j := Int.toNat_of_nonneg (by omega)
  have hq' : ((q.toNat : Nat) : Int) = q := Int.toNat_of_nonneg (by omega)
  rw [← hi'] at hlo
  rw [← hj'] at hy
  rw [← hq'] at hz0
  have hlen : ((l.drop i.toNat).take (j.toNat - i.toNat)).length = j.toNat - i.toNat := by simp; omega
  rw [hlen] at h2
  refine RunL_q (s := ⟨T, H, M⟩) (s_slice3_vs (l := i.toNat) (h := j.toNat) (m := q.toNat) ht htd he hx hlo hy hz0 (by omega) (by omega) (by omega) ?_).later rfl hdo h2
  exact F_sub hz l _ _
/-! ### Sums -/
theorem n_addw {t t' : TypeId} {x y : Operand} {k : IntKind} {m n : Int} (hnext : RunM c ops hot Q lq ⟨(d, .pl (.int k (k.wrap (m + n)))) :: T, H, M⟩) (hx : opv T x = some (.pl (.int k m)) := by exact rfl) (hy : opv T y = some (.pl (.int k n)) := by exact rfl) (hdo : dstOk c.N (some d) = true := by exact rfl) : RunN c ops hot Q i0 false ⟨some d, .binOp .add t x y t', ty, pos, af, none⟩ lq ⟨T, H, M⟩ := RN_int hx hy (fun w' => by simp [binOp, Op.intArith]) hdo hnext
theorem n_subw {t t' : TypeId} {x y : Operand} {k : IntKind} {m n : Int} (hnext : RunM c ops hot Q lq ⟨(d, .pl (.int k (k.wrap (m - n)))) :: T, H, M⟩) (hx : opv T x = some (.pl (.int k m)) := by exact rfl) (hy : opv T y = some (.pl (.int k n)) := by exact rfl) (hdo : dstOk c.N (some d) = true := by exact rfl) : RunN c ops hot Q i0 false ⟨some d, .binOp .sub t x y t', ty, pos, af, none⟩ lq ⟨T, H, M⟩ := RN_int hx hy (fun w' => by simp [binOp, Op.intArith]) hdo hnext
theorem n_mulw {t t' : TypeId} {x y : Operand} {k : IntKind} {m n : Int} (hnext : RunM c ops hot Q lq ⟨(d, .pl (.int k (k.wrap (m * n)))) :: T, H, M⟩) (hx : opv T x = some (.pl (.int k m)) := by exact rfl) (hy : opv T y = some (.pl (.int k n)) := by exact rfl) (hdo : dstOk c.N (some d) = true := by exact rfl) : RunN c ops hot Q i0 false ⟨some d, .binOp .mul t x y t', ty, pos, af, none⟩ lq ⟨T, H, M⟩ := RN_int hx hy (fun w' => by simp [binOp, Op.intArith]) hdo hnext
/-! ### Calls -/
theorem n_call {α ρ : Type} {P : Program} {g : Option α} {kk : α → Option ρ} {r : ρ} {E : α → AV} {cl : Call} {k : FuncId} {first cap es args : List AV} (h : g.bind kk = some r) (hs : ∀ v, g = some v → XSpec P k args [] (E v) [] []) (hn : ∀ v, g = some v → kk v = some r → RunM c ops hot Q lq ⟨(d, E v) :: T, H, M⟩)
    (hP : c.P = P := by exact rfl) (hk : calleeOf T cl.callee = some (k, first, cap) := by exact rfl) (ha : opvL T cl.args.toList = some es := by exact rfl) (hargs : first ++ es ++ cap = args := by exact rfl) (hcl : AV.onlyL [] args = true := by first | exact rfl | (simp only [AV.closedL, AV.closed, AV.onlyL, AV.only, Bool.true_and, Bool.and_true]; first | exact And.left (by assumption) | exact And.right (by assumption))) (hdo : dstOk c.N (some d) = true := by exact rfl) : RunN c ops hot Q i0 true ⟨some d, .call cl, ty, pos, af, none⟩ lq ⟨T, H, M⟩ := by
  obtain ⟨v, hv, h⟩ := bind_some h
  exact RN_pcall (hs v hv).p hP hk ha hargs hcl hdo (hn v hv h)
theorem n_callX {α ρ : Type} {P : Program} {g : Option α} {kk : α → Option ρ} {r : ρ} {E : α → AV} {Hf H1 H2 : List (Nat × AObj)} {H' : α → List (Nat × AObj)} {mv mv' : List Nat} {cl : Call} {k : FuncId} {first cap es args args0 : List AV} (ws : List (Nat × Nat)) (ns : List Nat) (h : g.bind kk = some r) (hs : ∀ v, g = some v → XSpec P k args Hf (E v) (H' v) mv)
    (hn : ∀ v, g = some v → kk v = some r → RunM c ops hot Q lq ⟨putT (kiT mv' T) (some d) ((E v).mapN (swL ws)), swH ws (H' v) ++ kiH mv' H2, mv' ++ M⟩) (hh : ns = [] ∨ mem i0 hot = true := by first | exact Or.inl rfl | exact Or.inr rfl)
    (hmv : mv.map (swp ws) = mv' := by exact rfl) (hP : c.P = P := by exact rfl) (hk : calleeOf T cl.callee = some (k, first, cap) := by exact rfl) (ha : opvL T cl.args.toList = some es := by exact rfl) (ha0 : first ++ es ++ cap = args0 := by exact rfl) (hargs : AV.mapNL (swL ws) args0 = args := by exact rfl) (hH1 : hpick ns H = H1 := by exact rfl) (hHf : swH ws H1 = Hf := by exact rfl)
    (hok : honly ns H1 = true := by exact rfl) (hon : AV.onlyL ns args0 = true := by exact rfl) (hH2 : hrest ns H = H2 := by exact rfl) (hap : ∀ v, hapart (swH ws (H' v)) H2 = true := by exact fun _ => rfl) (hdo : dstOk c.N (some d) = true := by exact rfl) (hw : nodupB (swN ws) = true := by exact rfl) : RunN c ops hot Q i0 true ⟨some d, .call cl, ty, pos, af, none⟩ lq ⟨T, H, M⟩ := by
  obtain ⟨v, hv, h⟩ := bind_some h
  subst hP hmv
  exact RN_callX ns hh ((hs v hv).sw ws hw hargs hHf) hk ha ha0 hH1 hok hon hH2 (hap v) hdo (hn v hv h)
/-! ### Rows that nobody writes -/
theorem n_at {α ρ : Type} {l : List α} {e : α → List AV} {kk : α → Option ρ} {r : ρ} {t : TypeId} {x y : Operand} {k : IntKind} {i : Int} {ti ei : TI} {et : TypeId} (h : (at' l i).bind kk = some r) (hn : ∀ a, at' l i = some a → kk a = some r → RunM c ops hot Q lq ⟨(d, .vptr (e a)) :: T, H, M⟩)
    (ht : tget c.U t = some ti := by exact rfl) (htd : ti.desc = .slice et := by exact rfl) (he : tget c.U et = some ei := by exact rfl) (hx : opv T x = some (.vs l.length (F e l)) := by exact rfl) (hy : opv T y = some (.pl (.int k i)) := by exact rfl) (hz : ∀ a, (e a).length = ei.size := by exact fun _ => rfl) (hdo : dstOk c.N (some d) = true := by exact rfl) : RunN c ops hot Q i0 false ⟨some d, .indexAddr t x y, ty, pos, af, none⟩ lq ⟨T, H, M⟩ := by
  obtain ⟨a, ha, h⟩ := bind_some h
  obtain ⟨h0, hlt, hg⟩ := at'_some ha
  have hi : i.toNat < l.length := by omega
  have hd : (F e l).drop (i.toNat * ei.size) = e a ++ F e (l.drop (i.toNat + 1)) := by
    have := flat_drop hz l i.toNat hi
    rw [List.getElem?_eq_getElem hi] at hg
    cases hg
    exact this
  exact RN_indexAddr_vsD ht htd he hx hy ⟨h0, hlt⟩ hd hdo fun a' w hs => hn a ha h a' w (hs.weak1 (Le_vptr _ _))
/-! ### Texts -/
theorem n_lens {t : TypeId} {x : Operand} {l : List UInt8} {ti : TI} (hnext : RunM c ops hot Q lq ⟨(d, I (l.length : Int)) :: T, H, M⟩) (ht : tget c.U t = some ti := by exact rfl) (htd : ti.desc = .string := by exact rfl) (hx : opv T x = some (S l) := by exact rfl) (hdo : dstOk c.N (some d) = true := by exact rfl) : RunN c ops hot Q i0 false ⟨some d, .call { callee := .builtin .len, args := #[x], argTypes := #[t] }, ty, pos, af, none⟩ lq ⟨T, H, M⟩ := RN_len_str ht htd hx hdo hnext
theorem n_subs {ρ : Type} {kk : List UInt8 → Option ρ} {r : ρ} {t : TypeId} {x : Operand} {lo hi : Option Operand} {l : List UInt8} {i j : Int} {ti : TI} (h : (sub' l i j).bind kk = some r) (hn : ∀ v, sub' l i j = some v → kk v = some r → RunM c ops hot Q lq ⟨(d, S v) :: T, H, M⟩) (ht : tget c.U t = some ti := by exact rfl) (htd : ti.desc = .string := by exact rfl) (hx : opv T x = some (S l) := by exact rfl) (hlo : bnd T 0 lo = some i := by exact rfl) (hhi : bnd T (l.length : Int) hi = some j := by exact rfl) (hdo : dstOk c.N (some d) = true := by exact rfl) : RunN c ops hot Q i0 false ⟨some d, .slice t x lo hi none, ty, pos, af, none⟩ lq ⟨T, H, M⟩ := by
  obtain ⟨v, hv, h⟩ := bind_some h
  have h2 := hn v hv h
  obtain ⟨h0, h1, h3, rfl⟩ := sub'_some hv
  have hi' : ((i.toNat : Nat) : Int) = i := Int.toNat_of_nonneg h0
  have hj' : ((j.toNat : Nat) : Int) = j := Int.toNat_of_nonneg (by omega)
  rw [← hi'] at hlo
  rw [← hj'] at hhi
  have e : (ByteArray.mk l.toArray).extract i.toNat j.toNat = ⟨((l.drop i.toNat).take (j.toNat - i.toNat)).toArray⟩ := by apply ByteArray.ext; simp
  unfold S at h2
  rw [← e] at h2
  exact RunN_q (s := ⟨T, H, M⟩) (q_slice_str ht htd hx hlo hhi (by omega) (by show j.toNat ≤ l.length; omega)) rfl hdo h2
/-! ### Bytes -/
/-! ### Slices -/
theorem n_lenn {t : TypeId} {x : Operand} {ti : TI} {et : TypeId} (hnext : RunM c ops hot Q lq ⟨(d, I 0) :: T, H, M⟩) (ht : tget c.U t = some ti := by exact rfl) (htd : ti.desc = .slice et := by exact rfl) (hx : opv T x = some (.pl (.slice none 0 0)) := by exact rfl) (hdo : dstOk c.N (some d) = true := by exact rfl) : RunN c ops hot Q i0 false ⟨some d, .call { callee := .builtin .len, args := #[x], argTypes := #[t] }, ty, pos, af, none⟩ lq ⟨T, H, M⟩ := RN_len (n := 0) ht htd hx rfl hdo hnext
theorem n_subf {α ρ : Type} {kk : List α → Option ρ} {r : ρ} {t : TypeId} {x : Operand} {lo hi : Option Operand} {l : List α} {e : α → List AV} {i j : Int} {ti ei : TI} {et : TypeId} (h : (sub' l i j).bind kk = some r) (hn : ∀ v, sub' l i j = some v → kk v = some r → RunM c ops hot Q lq ⟨(d, .vs v.length (F e v)) :: T, H, M⟩) (ht : tget c.U t = some ti := by exact rfl) (htd : ti.desc = .slice et := by exact rfl) (he : tget c.U et = some ei := by exact rfl) (hx : opv T x = some (.vs l.length (F e l)) := by exact rfl) (hlo : bnd T 0 lo = some i := by exact rfl) (hhi : bnd T (l.length : Int) hi = some j := by exact rfl) (hz : ∀ a, (e a).length = ei.size := by exact fun _ => rfl) (hdo : dstOk c.N (some d) = true := by exact rfl) : RunN c ops hot Q i0 false ⟨some d, .slice t x lo hi none, ty, pos, af, none⟩ lq ⟨T, H, M⟩ := by
  obtain ⟨v, hv, h⟩ := bind_some h
  have h2 := hn v hv h
  obtain ⟨h0, h1, h3, rfl⟩ := sub'_some hv
  have hi' : ((i.toNat : Nat) : Int) = i := Int.toNat_of_nonneg h0
  have hj' : ((j.toNat : Nat) : Int) = j := Int.toNat_of_nonneg (by omega)
  rw [← hi'] at hlo
  rw [← hj'] at hhi
  have el : ((l.drop i.toNat).take (j.toNat - i.toNat)).length = j.toNat - i.toNat := by rw [List.length_take, List.length_drop]; omega
  rw [el] at h2
  exact RN_slice_vs ht htd he hx hlo hhi (by omega) (by omega) (F_sub hz l _ _) hdo h2
theorem n_ato {te : TypeId} {α ρ : Type} {l : List α} {e : α → List AV} {kk : α → Option ρ} {r : ρ} {b fz sz : Nat} {t : TypeId} {x y : Operand} {k : IntKind} {i : Int} {ti ei : TI} {et : TypeId} (h : (at' l i).bind kk = some r) (hn : ∀ a, at' l i = some a → kk a = some r → RunM c ops hot Q lq ⟨(d, .ptr b (i.toNat * sz)) :: T, H, M⟩)
    (ht : tget c.U t = some ti := by exact rfl) (htd : ti.desc = .slice et := by exact rfl) (he : tget c.U et = some ei := by exact rfl) (hsz : ei.size = sz := by exact rfl) (hx : opv T x = some (.sl b 0 l.length) := by exact rfl) (hb : hget H b = some (.row te sz fz (F e l)) := by exact rfl) (hy : opv T y = some (.pl (.int k i)) := by exact rfl) (hdo : dstOk c.N (some d) = true := by exact rfl) : RunN c ops hot Q i0 false ⟨some d, .indexAddr t x y, ty, pos, af, none⟩ lq ⟨T, H, M⟩ := by
  obtain ⟨a, ha, h⟩ := bind_some h
  obtain ⟨h0, hlt, hg⟩ := at'_some ha
  have hi : ((i.toNat : Nat) : Int) = i := Int.toNat_of_nonneg h0
  rw [← hi] at hy
  subst hsz
  exact RunN_q (s := ⟨T, H, M⟩) (q_indexAddr_sl0 ht htd he hx hy (by omega)) rfl hdo (hn a ha h)
theorem n_ldr {te : TypeId} {α : Type} {l : List α} {e : α → List AV} {a : α} {b fz sz o : Nat} {i : Int} {t : TypeId} {x : Operand} {ay : AV} {ti : TI} (ha : at' l i = some a) (hnext : RunM c ops hot Q lq ⟨(d, ay) :: T, H, M⟩) (ht : tget c.U t = some ti := by exact rfl) (hag : aggD ti.desc = false := by exact rfl) (hx : opv T x = some (.ptr b (i.toNat * sz + o)) := by exact rfl) (hb : hget H b = some (.row te sz fz (F e l)) := by exact rfl) (hz : ∀ a, (e a).length = sz := by exact fun _ => rfl) (hc : (e a)[o]? = some ay := by exact rfl) (hdo : dstOk c.N (some d) = true := by exact rfl) : RunN c ops hot Q i0 false ⟨some d, .load t x, ty, pos, af, none⟩ lq ⟨T, H, M⟩ :=
  RN_load ht hag hx (show memAt H (.ptr b (i.toNat * sz + o)) = some ((F e l).drop (i.toNat * sz + o)) by simp only [memAt, hb]) (F_head hz ha hc) hdo hnext
theorem n_lit {α : Type} {e : α → List AV} (l : List α) {t : TypeId} {n : Nat} {parts : Array (Nat × Operand)} {axs : List AV} {ti ei : TI} {et k : Nat} (hnext : RunM c ops hot Q lq ⟨(d, .sl (nm (some d)) 0 l.length) :: T, (nm (some d), .row et k 0 (F e l)) :: H, M⟩) (ht : tget c.U t = some ti := by exact rfl) (htd : ti.desc = .slice et := by exact rfl) (he : tget c.U et = some ei := by exact rfl) (hk : ei.size = k := by exact rfl) (hk0 : Nat.blt 0 k = true := by exact rfl) (hzs : ei.zero.cells.size = k := by exact rfl) (hparts : seqB 0 parts.toList = true := by exact rfl) (hn : parts.toList.length = n := by exact rfl) (hn0 : Nat.blt 0 n = true := by exact rfl) (hx : opvL T (parts.toList.map (·.2)) = some axs := by exact rfl) (hfit : fitAll k axs = true := by exact rfl) (hcs : cellsL axs = F e l := by exact rfl) (hl : l.length = n := by exact rfl) (hlim : Nat.ble (n * k) (2 ^ 24) = true := by exact rfl) (hb : hget H (nm (some d)) = none := by exact rfl) (hdo : dstOk c.N (some d) = true := by exact rfl) : RunN c ops hot Q i0 true ⟨some d, .buildSlice t n parts, ty, pos, af, none⟩ lq ⟨T, H, M⟩ :=
  RN_buildSliceN ht htd he hk hk0 hzs hparts hn hn0 hx hfit hcs hlim hb hdo (by rw [← hl]; exact hnext)
theorem n_appo {te' : TypeId} {α ρ : Type} {e : α → List AV} {kk : List α → Option ρ} {r : ρ} {l m : List α} {sz b b' k fz' : Nat} {t : TypeId} {x y : Operand} {ti ei : TI} {et : TypeId} (h : (app sz l m).bind kk = some r) (hn : ∀ v, app sz l m = some v → kk v = some r → RunM c ops hot Q lq ⟨(d, .sl b 0 v.length) :: killT b T, (b, .row et k 0 (F e v)) :: killH b H, b :: M⟩) (hh : mem i0 hot = true := by exact rfl) (ht : tget c.U t = some ti := by exact rfl) (htd : ti.desc = .slice et := by exact rfl) (he : tget c.U et = some ei := by exact rfl) (hk : ei.size = k := by exact rfl) (hzs : ei.zero.cells.size = k := by exact rfl) (hbb : ei.bytes = sz := by exact rfl) (hbp : Nat.blt 0 sz = true := by exact rfl) (hx : opv T x = some (.sl b 0 l.length) := by exact rfl) (hb : hget H b = some (.row et k 0 (F e l)) := by exact rfl) (hy : opv T y = some (.sl b' 0 m.length) := by exact rfl) (hb' : hget H b' = some (.row te' k fz' (F e m)) := by exact rfl) (hz : ∀ a, (e a).length = k := by exact fun _ => rfl) (hdo : dstOk c.N (some d) = true := by exact rfl) : RunN c ops hot Q i0 true ⟨some d, .call { callee := .builtin .append, args := #[x, y], argTypes := #[t, t] }, ty, pos, af, none⟩ lq ⟨T, H, M⟩ := by
  obtain ⟨v, hv, h⟩ := bind_some h
  have h2 := hn v hv h
  obtain ⟨hl, rfl⟩ := app_some hv
  subst hbb
  have hbp : 0 < ei.bytes := by simpa [Nat.blt_eq] using hbp
  rw [List.length_append, F_app hz] at h2
  exact RN_append ht htd he hk hzs hbp hx hb (by rw [F_length hz]; omega) (Nat.zero_le _) hy (show srcAt H k (.sl b' 0 m.length) = some (m.length, F e m) by simp only [srcAt, hb', List.drop_zero]; rw [List.take_of_length_le (by rw [F_length hz]; omega)]) (F_length hz m) hl hdo hh h2
theorem n_eqs {op : BinOp} {t t' : TypeId} {x y : Operand} {k : IntKind} (xs ys : List Int) {r : Bool} {ti : TI} {fs : Array Field} (hsh : c.P.stoodInHeld t = false) (hgt : c.P.eqGuardType c.P.depth t = false) (hnext : RunM c ops hot Q lq ⟨(d, (.pl (.bool r))) :: T, H, M⟩) (ht : tget c.U t = some ti := by exact rfl) (hd : ti.desc = .struct fs := by exact rfl) (hB : intFs c.U k 0 fs.toList = true := by exact rfl) (hlx : xs.length = fs.toList.length := by exact rfl) (hly : ys.length = fs.toList.length := by exact rfl) (hx : opv T x = some (.agg (encIs k xs)) := by exact rfl) (hy : opv T y = some (.agg (encIs k ys)) := by exact rfl) (hop : (op = .eql ∧ r = (xs == ys)) ∨ (op = .neq ∧ r = !(xs == ys)) := by first | exact Or.inl ⟨rfl, rfl⟩ | exact Or.inr ⟨rfl, rfl⟩) (hdo : dstOk c.N (some d) = true := by exact rfl) : RunN c ops hot Q i0 false ⟨some d, .binOp op t x y t', ty, pos, af, none⟩ lq ⟨T, H, M⟩ := RN_eq_ints hsh hgt ht hd hB hlx hly hx rfl hy rfl hop hdo hnext
/-! ### More -/
theorem n_max2 {x y : Operand} {argTs : Array TypeId} {k : IntKind} {m n : Int} (hnext : RunM c ops hot Q lq ⟨(d, .pl (.int k (mx m n))) :: T, H, M⟩) (hx : opv T x = some (.pl (.int k m)) := by exact rfl) (hy : opv T y = some (.pl (.int k n)) := by exact rfl) (hdo : dstOk c.N (some d) = true := by exact rfl) : RunN c ops hot Q i0 false ⟨some d, .call { callee := .builtin .max, args := #[x, y], argTypes := argTs }, ty, pos, af, none⟩ lq ⟨T, H, M⟩ := RunN_q (s := ⟨T, H, M⟩) (q_max2 hx hy) rfl hdo hnext
theorem n_ldr0 {te : TypeId} {α : Type} {l : List α} {e : α → List AV} {a : α} {b fz sz : Nat} {i : Int} {t : TypeId} {x : Operand} {ay : AV} {ti : TI} (ha : at' l i = some a) (hnext : RunM c ops hot Q lq ⟨(d, ay) :: T, H, M⟩) (ht : tget c.U t = some ti := by exact rfl) (hag : aggD ti.desc = false := by exact rfl) (hx : opv T x = some (.ptr b (i.toNat * sz)) := by exact rfl) (hb : hget H b = some (.row te sz fz (F e l)) := by exact rfl) (hz : ∀ a, (e a).length = sz := by exact fun _ => rfl) (hc : (e a)[0]? = some ay := by exact rfl) (hdo : dstOk c.N (some d) = true := by exact rfl) : RunN c ops hot Q i0 false ⟨some d, .load t x, ty, pos, af, none⟩ lq ⟨T, H, M⟩ :=
  RN_load ht hag hx (show memAt H (.ptr b (i.toNat * sz)) = some ((F e l).drop (i.toNat * sz)) by simp only [memAt, hb]) (F_head (o := 0) hz ha hc) hdo hnext
/-! ### Pointers that may be nil -/
theorem n_deref {α ρ : Type} {p : Option α} {e : α → List AV} {kk : α → Option ρ} {r : ρ} {x : Operand} (h : p.bind kk = some r) (hn : ∀ v, p = some v → kk v = some r → RunM c ops hot Q lq ⟨(d, .vptr (e v)) :: T, H, M⟩) (hx : opv T x = some (oP e p) := by exact rfl) (hdo : dstOk c.N (some d) = true := by exact rfl) : RunN c ops hot Q i0 false ⟨some d, .nilCheck x, ty, pos, af, none⟩ lq ⟨T, H, M⟩ := by
  obtain ⟨v, hv, h⟩ := bind_some h
  have hx' : opv T x = some (.vptr (e v)) := by rw [hx, hv]; rfl
  exact RunN_q (s := ⟨T, H, M⟩) (q_nilCheck hx' rfl) rfl hdo (hn v hv h)
/-! ### Bits -/
theorem n_shlC {t t' : TypeId} {x y : Operand} {k k' : IntKind} {m n r : Int} (hnext : RunM c ops hot Q lq ⟨(d, .pl (.int k (k.wrap r))) :: T, H, M⟩) (hx : opv T x = some (.pl (.int k m)) := by exact rfl) (hy : opv T y = some (.pl (.int k' n)) := by exact rfl) (hr : W.shl k.bits m n = some r := by exact rfl) (hdo : dstOk c.N (some d) = true := by exact rfl) : RunN c ops hot Q i0 false ⟨some d, .binOp .shl t x y t', ty, pos, af, none⟩ lq ⟨T, H, M⟩ := RunN_q (s := ⟨T, H, M⟩) (q_shl hx hy hr) rfl hdo hnext
theorem n_bits {op : BinOp} {t t' : TypeId} {x y : Operand} {k : IntKind} {m n r : Int} (hnext : RunM c ops hot Q lq ⟨(d, .pl (.int k (k.wrap r))) :: T, H, M⟩) (hx : opv T x = some (.pl (.int k m)) := by exact rfl) (hy : opv T y = some (.pl (.int k n)) := by exact rfl) (hr : bitsOf op k.bits m n = some r := by exact rfl) (hdo : dstOk c.N (some d) = true := by exact rfl) : RunN c ops hot Q i0 false ⟨some d, .binOp op t x y t', ty, pos, af, none⟩ lq ⟨T, H, M⟩ := RunN_q (s := ⟨T, H, M⟩) (q_bits hx hy hr) rfl hdo hnext
theorem n_capn {t : TypeId} {x : Operand} {ti : TI} {et : TypeId} (hnext : RunM c ops hot Q lq ⟨(d, I 0) :: T, H, M⟩) (ht : tget c.U t = some ti := by exact rfl) (htd : ti.desc = .slice et := by exact rfl) (hx : opv T x = some (.pl (.slice none 0 0)) := by exact rfl) (hdo : dstOk c.N (some d) = true := by exact rfl) : RunN c ops hot Q i0 false ⟨some d, .call { callee := .builtin .cap, args := #[x], argTypes := #[t] }, ty, pos, af, none⟩ lq ⟨T, H, M⟩ := RunN_q (s := ⟨T, H, M⟩) (q_capn ht htd hx) rfl hdo hnext
/-! ### Parts of rows -/
theorem n_subp {te : TypeId} {ρ : Type} {kk : Unit → Option ρ} {r : ρ} {t : TypeId} {x : Operand} {hi : Option Operand} {b n k fz : Nat} {j : Int} {cs : List AV} {ti ei : TI} {et : TypeId} (h : (rng (n : Int) 0 j).bind kk = some r) (hn : kk () = some r → RunM c ops hot Q lq ⟨(d, .sl b 0 j.toNat) :: T, H, M⟩) (ht : tget c.U t = some ti := by exact rfl) (htd : ti.desc = .slice et := by exact rfl) (he : tget c.U et = some ei := by exact rfl) (hx : opv T x = some (.sl b 0 n) := by exact rfl) (hb : hget H b = some (.row te k fz cs) := by exact rfl) (hk : ei.size = k := by exact rfl) (hhi : bnd T (n : Int) hi = some j := by exact rfl) (hdo : dstOk c.N (some d) = true := by exact rfl) : RunN c ops hot Q i0 false ⟨some d, .slice t x none hi none, ty, pos, af, none⟩ lq ⟨T, H, M⟩ := by
  obtain ⟨u, hv, h⟩ := bind_some h
  obtain ⟨h1, h2, h3⟩ := rng_some hv
  exact RunN_q (s := ⟨T, H, M⟩) (q_slice_part ht htd he hx hb hk (l := 0) (h := j.toNat) rfl (by rw [hhi]; congr 1; omega) (by omega) (by omega) (by rw [Nat.zero_mul])) rfl hdo (hn h)
theorem n_put {te : TypeId} {α ρ : Type} {l : List α} {e : α → List AV} {a a' : α} {kk : List α → Option ρ} {r : ρ} {t : TypeId} {x y : Operand} {ay : AV} {es : List AV} {b o sz : Nat} {i : Int} {ti : TI} (ha : at' l i = some a) (h : (put l i a').bind kk = some r) (hn : ∀ v, v.length = l.length → kk v = some r → RunM c ops hot Q lq ⟨T, hset H b (.row te sz 0 (F e v)), M⟩) (hh : mem i0 hot = true := by exact rfl) (ht : tget c.U t = some ti := by exact rfl) (hx : opv T x = some (.ptr b (i.toNat * sz + o)) := by exact rfl) (hy : opv T y = some ay := by exact rfl) (hes : cellsA ay = es := by exact rfl) (hf : fit ay = true := by exact rfl) (hl : es.length = ti.size := by exact rfl) (hcl : AV.closedL es = true := by exact rfl) (hb : hget H b = some (.row te sz 0 (F e l)) := by exact rfl) (hz : ∀ a, (e a).length = sz := by exact fun _ => rfl) (hpos : Nat.blt 0 ti.size = true := by exact rfl) (hin : Nat.ble (o + es.length) sz = true := by exact rfl) (hu : updL (e a) o es = e a' := by exact rfl) : RunN c ops hot Q i0 true ⟨none, .store t x y, ty, pos, af, none⟩ lq ⟨T, H, M⟩ := by
  obtain ⟨v, hv, h⟩ := bind_some h
  obtain ⟨h0, hlt, rfl⟩ := put_some hv
  have hin := Nat.le_of_ble_eq_true hin
  have hpos : 0 < ti.size := by simpa [Nat.blt_eq] using hpos
  have h2 := hn _ (by simp) h
  rw [← F_put hz ha hin hu] at h2
  have hi : i.toNat < l.length := by omega
  have hle : i.toNat * sz + sz ≤ l.length * sz := by rw [← Nat.succ_mul]; exact Nat.mul_le_mul_right _ hi
  exact RunN_e (s := ⟨T, H, M⟩) hh (e_store_row ht hx hy hes hf hl hcl hb (Nat.zero_le _) (by rw [F_length hz]; omega) hpos rfl) rfl h2
theorem n_put0 {te : TypeId} {α ρ : Type} {l : List α} {e : α → List AV} {a a' : α} {kk : List α → Option ρ} {r : ρ} {t : TypeId} {x y : Operand} {ay : AV} {es : List AV} {b sz : Nat} {i : Int} {ti : TI} (ha : at' l i = some a) (h : (put l i a').bind kk = some r) (hn : ∀ v, v.length = l.length → kk v = some r → RunM c ops hot Q lq ⟨T, hset H b (.row te sz 0 (F e v)), M⟩) (hh : mem i0 hot = true := by exact rfl) (ht : tget c.U t = some ti := by exact rfl) (hx : opv T x = some (.ptr b (i.toNat * sz)) := by exact rfl) (hy : opv T y = some ay := by exact rfl) (hes : cellsA ay = es := by exact rfl) (hf : fit ay = true := by exact rfl) (hl : es.length = ti.size := by exact rfl) (hcl : AV.closedL es = true := by exact rfl) (hb : hget H b = some (.row te sz 0 (F e l)) := by exact rfl) (hz : ∀ a, (e a).length = sz := by exact fun _ => rfl) (hpos : Nat.blt 0 ti.size = true := by exact rfl) (hin : Nat.ble es.length sz = true := by exact rfl) (hu : updL (e a) 0 es = e a' := by exact rfl) : RunN c ops hot Q i0 true ⟨none, .store t x y, ty, pos, af, none⟩ lq ⟨T, H, M⟩ :=
  n_put (o := 0) ha h hn hh ht hx hy hes hf hl hcl hb hz hpos (by rw [Nat.zero_add]; exact hin) hu
/-! ### Shortened; lengths -/
theorem Sat.relen {a : Act} {w : World} {t b o n m : Nat} (h : Sat c ⟨T, H, M⟩ a w) (ht : get T t = some (.sl b o n)) (e : n = m) : Sat c ⟨(t, .sl b o m) :: T, H, M⟩ a w := by subst e; exact h.weak ht (fun _ _ _ _ h => h)
theorem l_relen {b o n : Nat} (t m : Nat) (h : RunL c ops Q rest ⟨(t, .sl b o m) :: T, H, M⟩) (ht : get T t = some (.sl b o n) := by exact rfl) (e : n = m := by omega) : RunL c ops Q rest ⟨T, H, M⟩ := fun a w hs => h a w (hs.relen ht e)
theorem m_relen {b o n : Nat} (t m : Nat) (h : RunM c ops hot Q lq ⟨(t, .sl b o m) :: T, H, M⟩) (ht : get T t = some (.sl b o n) := by exact rfl) (e : n = m := by omega) : RunM c ops hot Q lq ⟨T, H, M⟩ := fun a w hs => h a w (hs.relen ht e)
theorem f_relen {x : Exit} {b o n : Nat} (t m : Nat) (h : Fin c Q x ⟨(t, .sl b o m) :: T, H, M⟩) (ht : get T t = some (.sl b o n) := by exact rfl) (e : n = m := by omega) : Fin c Q x ⟨T, H, M⟩ := fun a w hs => h a w (hs.relen ht e)
/-! ### Nil, frozen, owned -/
theorem l_frz (b : Nat) {ob : AObj} {cs : List AV} (h : RunL c ops Q rest ⟨mapT (frzW b cs) T, mapH (frzW b cs) (hdel H b), b :: M⟩) (hb : hget H b = some ob := by exact rfl) (hcs : cellsOf ob = some cs := by exact rfl) : RunL c ops Q rest ⟨T, H, M⟩ := fun a w hs => h a w (hs.frzW hb hcs)
theorem m_frz (b : Nat) {ob : AObj} {cs : List AV} (h : RunM c ops hot Q lq ⟨mapT (frzW b cs) T, mapH (frzW b cs) (hdel H b), b :: M⟩) (hb : hget H b = some ob := by exact rfl) (hcs : cellsOf ob = some cs := by exact rfl) : RunM c ops hot Q lq ⟨T, H, M⟩ := fun a w hs => h a w (hs.frzW hb hcs)
theorem f_frz {e : Exit} (b : Nat) {ob : AObj} {cs : List AV} (h : Fin c Q e ⟨mapT (frzW b cs) T, mapH (frzW b cs) (hdel H b), b :: M⟩) (hb : hget H b = some ob := by exact rfl) (hcs : cellsOf ob = some cs := by exact rfl) : Fin c Q e ⟨T, H, M⟩ := fun a w hs => h a w (hs.frzW hb hcs)
theorem k_nilrow {te : TypeId} {code : Code} {t : Nat} (b k : Nat) (h : Run c Q code ⟨(t, .sl b 0 0) :: T, (b, .row te k 0 []) :: H, M⟩) (ht : get T t = some (.pl (.slice none 0 0)) := by exact rfl) (hb : hget H b = none := by exact rfl) : Run c Q code ⟨T, H, M⟩ := Run_nilrow b k ht hb h
theorem f_nilrow {te : TypeId} {e : Exit} {t : Nat} (b k : Nat) (h : Fin c Q e ⟨(t, .sl b 0 0) :: T, (b, .row te k 0 []) :: H, M⟩) (ht : get T t = some (.pl (.slice none 0 0)) := by exact rfl) (hb : hget H b = none := by exact rfl) : Fin c Q e ⟨T, H, M⟩ := Fin_nilrow b k ht hb h
theorem k_nilcell {te : TypeId} {tb : TypeId} {code : Code} {b1 j : Nat} {cs : List AV} (b k : Nat) (h : Run c Q code ⟨T, hset ((b, .row te k 0 []) :: H) b1 (.box tb (cs.set j (.sl b 0 0))), M⟩) (hb1 : hget H b1 = some (.box tb cs) := by exact rfl) (hj : cs[j]? = some (.pl (.slice none 0 0)) := by exact rfl) (hb : hget H b = none := by exact rfl) : Run c Q code ⟨T, H, M⟩ := Run_nilcell b k hb1 hj hb h
theorem l_next {ρ : Type} {x : Operand} {b p : Nat} {l : List UInt8} {o1 o2 : Option ρ} {r : ρ} (h : (bif decide (p < l.length) then o1 else o2) = some r) (ht : decide (p < l.length) = true → o1 = some r → RunL c ops Q rest ⟨(d, .tup [B true, I (p : Int), .pl (.int .i32 ((dec l p).1 : Int))]) :: T, hset H b (.siter ⟨l.toArray⟩ (p + (dec l p).2)), M⟩)
    (hf : decide (p < l.length) = false → o2 = some r → RunL c ops Q rest ⟨(d, .tup [B false]) :: T, H, M⟩) (hx : opv T x = some (.it b) := by exact rfl) (hb : hget H b = some (.siter ⟨l.toArray⟩ p) := by exact rfl) (hdo : dstOk c.N (some d) = true := by exact rfl) : RunL c ops Q (⟨some d, .next x true, ty, pos, af, none⟩ :: rest) ⟨T, H, M⟩ := by
  rcases cond_some h with ⟨e, h⟩ | ⟨e, h⟩
  · refine RunL_e (s := ⟨T, H, M⟩) (e_next hx hb (by have := of_decide_eq_true e; exact this) hdo) rfl ?_
    rw [dec_eq]
    exact ht e h
  · exact RunL_e (s := ⟨T, H, M⟩) (e_next_end hx hb (by have := of_decide_eq_false e; exact this) hdo) rfl (hf e h)
theorem ret_xL {P : Program} {U : List (Nat × TI)} {hU : TabOk P U} {F : Nat → Prop} {β : Emb} {w0 : World} {N : Nat} {fn : Func} {H' : List (Nat × AObj)} {Nm mv : List Nat} {r r' r2 : AV} (σ : List (Nat × Nat))
    (hN : ∀ b p, β b = some p → mem b Nm = true) (hres : resAV U T H fn.results.toList = some r') (hle : AV.Le r' r2) (hσ : okS σ = true) (hr : r2.mapN (reL σ) = r) (hH : pickS σ σ H = some H') (hM : okM σ M mv Nm = true) {a : Act} {w : World} (hs : Sat ⟨P, U, hU, F, β, w0, N⟩ ⟨T, H, M⟩ a w) :
    a.defers = [] ∧ ∃ v, (results fn a.tmps).run P w = .ok v w ∧ Rpost (fun x H'' M' => x = r ∧ H'' = H' ∧ M' = mv) F β w0 (.returned v) w := by
  obtain ⟨β', hs⟩ := hs
  obtain ⟨u, hu, hv⟩ := run_results hs hres
  have hv := hle _ _ _ _ hv
  have hO : ∀ k, off F (reB σ β') k → off F β' k ∨ w.heap.size ≤ k := fun k hk => .inl (hk.imp id reB_own)
  refine ⟨hs.defers, u, hu, r, u, H', mv, reB σ β', rfl, ⟨rfl, rfl, rfl⟩, hs.heap.re hσ hH, ?_, ?_, fun b p hp hm => ?_⟩
  · rw [← hr]; exact VRel.mapN (Nat.le_refl _) hO (fun _ _ _ => rfl) (reL_rel hσ) hv
  · exact ⟨hs.keeps.os, hs.keeps.tape, hs.keeps.output, hs.keeps.size, hs.keeps.block, fun k hk => hs.keeps.grows k (reB_own hk)⟩
  · obtain ⟨h1, h2⟩ := okM_get hM (hN b p hp) hm
    exact reB_some.2 ⟨b, lk_rk hσ h1, hs.stay b p hp h2⟩
theorem k_retN {ρ : Type} {P : Program} {U : List (Nat × TI)} {hU : TabOk P U} {F : Nat → Prop} {β : Emb} {w0 : World} {N : Nat} {fn : Func} {H' : ρ → List (Nat × AObj)} {Nm mv : List Nat} {v r : ρ} {E : ρ → AV} {r' : AV} (σ : List (Nat × Nat))
    (hN : ∀ b p, β b = some p → mem b Nm = true) (h : some v = some r) (hres : resAV U T H fn.results.toList = some r' := by exact rfl) (hr : (nilN r').mapN (reL σ) = E v := by exact rfl) (hσ : okS σ = true := by exact rfl) (hH : pickS σ σ H = some (H' v) := by exact rfl) (hM : okM σ M mv Nm = true := by exact rfl) :
    Fin ⟨P, U, hU, F, β, w0, N⟩ (bodyPost P fn (Rpost (fun x H'' M' => x = E r ∧ H'' = H' r ∧ M' = mv) F β w0)) .ret ⟨T, H, M⟩ := by
  cases h
  exact fun a w hs => ret_xL σ hN hres (nilN_le _) hσ hr hH hM hs
theorem k_nd {x : Operand} {p q : Code} {b : Bool} (ht : b = true → Run c Q p ⟨T, H, M⟩) (hf : b = false → Run c Q q ⟨T, H, M⟩) (hx : opv T x = some (.pl (.bool b)) := by exact rfl) : Run c Q (.cond x p q) ⟨T, H, M⟩ := by
  cases b with
  | true => exact Run_cond_true hx (ht rfl)
  | false => exact Run_cond_false hx (hf rfl)
theorem l_eqnil {t t' : TypeId} {x : Operand} {cs : List AV} {n : Nat} {ti : TI} {e : TypeId} (hn : ∀ b : Bool, (b = true → n = 0) → RunL c ops Q rest ⟨(d, .pl (.bool b)) :: T, H, M⟩) (ht : tget c.U t = some ti := by exact rfl) (htd : ti.desc = .slice e := by exact rfl) (hx : opv T x = some (.vs n cs) := by exact rfl) (hdo : dstOk c.N (some d) = true := by exact rfl) : RunL c ops Q (⟨some d, .binOp .eql t x (.const (.slice none 0 0)) t', ty, pos, af, none⟩ :: rest) ⟨T, H, M⟩ := RL_eqnil ht htd hx rfl hdo hn
/-! ### Still operations; one of some -/
theorem gs {o : Oper} {s : St} (h : RunS c ops hot Q i0 o lq s) (hi : ops[i0]? = some o := by (simp only [List.getElem?_toArray, List.getElem?_cons_zero, List.getElem?_cons_succ]; exact rfl)) : RunM c ops hot Q (.s i0 lq) s := RunM_gets hi h
theorem geq {o : Oper} {s : St} (h : RunN c ops hot Q i0 false o lq s) (hi : ops[i0]? = some o := by (simp only [List.getElem?_toArray, List.getElem?_cons_zero, List.getElem?_cons_succ]; exact rfl)) : RunM c ops hot Q (.e i0 lq) s := by
  intro a w hs
  have h1 := RunM_getq hi h a w hs
  simp only [wpMix, hi] at h1
  obtain ⟨v, hy, hn⟩ := h1
  exact hy.wpOp hi (RowKit.Below.refl _ _) ⟨.inr (RowKit.Below.refl _ _), hn⟩
theorem m_alt {x y : Plan} {s : St} (h1 : RunM c ops hot Q (.e i0 x) s) (h2 : RunM c ops hot Q y s) : RunM c ops hot Q (.alt i0 x y) s := RunM_alt h1 h2
theorem x_move {x : Operand} {ax : AV} (hnext : RunM c ops hot Q lq ⟨(d, ax) :: T, H, M⟩) (hx : opv T x = some ax := by exact rfl) (hdo : dstOk c.N (some d) = true := by exact rfl) : RunS c ops hot Q i0 ⟨some d, .move x, ty, pos, af, none⟩ lq ⟨T, H, M⟩ := RunS_q (s := ⟨T, H, M⟩) (s_move hx) rfl hdo hnext
theorem x_fieldAddr {t : TypeId} {x : Operand} {i : Nat} {ax ay : AV} {ti fi : TI} {fs : Array Field} {f : Field} (hnext : RunM c ops hot Q lq ⟨(d, ay) :: T, H, M⟩) (ht : tget c.U t = some ti := by exact rfl) (hd : ti.desc = .struct fs := by exact rfl) (hf : fs[i]? = some f := by exact rfl) (hft : tget c.U f.type = some fi := by exact rfl) (hne : Nat.beq fi.size 0 = false := by exact rfl) (hx : opv T x = some ax := by exact rfl) (hy : addrOff ax f.offset = some ay := by exact rfl) (hdo : dstOk c.N (some d) = true := by exact rfl) : RunS c ops hot Q i0 ⟨some d, .fieldAddr t x i, ty, pos, af, none⟩ lq ⟨T, H, M⟩ := RunS_q (s := ⟨T, H, M⟩) (s_fieldAddr ht hd hf hft hne hx hy) rfl hdo hnext
theorem x_nilCheck {x : Operand} {ax ay : AV} (hnext : RunM c ops hot Q lq ⟨(d, ax) :: T, H, M⟩) (hx : opv T x = some ax := by exact rfl) (hy : addrOff ax 0 = some ay := by exact rfl) (hdo : dstOk c.N (some d) = true := by exact rfl) : RunS c ops hot Q i0 ⟨some d, .nilCheck x, ty, pos, af, none⟩ lq ⟨T, H, M⟩ := RunS_q (s := ⟨T, H, M⟩) (s_nilCheck hx hy) rfl hdo hnext
end
end Go.Abs
