/- THE STEPS OF A WALK, each by one application. WRITTEN BY genwalk.py out of the operations' lemmas. Generic over the program. Conditions: none. -/
import Derived.Test.YtojbjdcflgeibaaGreatDoorAbsM1
import Derived.Laws.Externs
import Derived.Lib.Bytealg
import Derived.Laws.IdiomStrings
import Derived.Laws.MakeOwn
import Derived.MapKept
set_option linter.unusedVariables false
namespace Go.Abs
open Go
variable [GTab]
section
variable {c:Ctx} {Q:Exit→Act→World→Prop} {T:List (Nat×AV)} {H:List (Nat×AObj)} {M:List Nat} {ops:Array Oper} {rest:List Oper} {d:Tmp} {ty:TypeId} {pos:String} {af:Array Edge} {hot:List Nat} {lq:Plan} {i0:Nat}
theorem RL_move {x:Operand}{ax:AV}(hx:opv T x=some ax)(hdo:dstOk c.N (some d)=true)(hnext:RunL c ops Q rest ⟨(d,ax)::T,H,M⟩):RunL c ops Q (⟨some d,.move x,ty,pos,af,none⟩::rest) ⟨T,H,M⟩:=qi (s:=⟨T,H,M⟩) (q_move hx) rfl hdo hnext
theorem RN_move {x:Operand}{ax:AV}(hx:opv T x=some ax)(hdo:dstOk c.N (some d)=true)(hnext:RunM c ops hot Q lq ⟨(d,ax)::T,H,M⟩):RunN c ops hot Q i0 false ⟨some d,.move x,ty,pos,af,none⟩ lq ⟨T,H,M⟩:=ZA (s:=⟨T,H,M⟩) (q_move hx) rfl hdo hnext
theorem RL_assign {x:Operand}{ax:AV}(hx:opv T x=some ax)(hdo:dstOk c.N (some d)=true)(hnext:RunL c ops Q rest ⟨(d,ax)::T,H,M⟩):RunL c ops Q (⟨some d,.assign x,ty,pos,af,none⟩::rest) ⟨T,H,M⟩:=qi (s:=⟨T,H,M⟩) (q_assign hx) rfl hdo hnext
theorem RN_assign {x:Operand}{ax:AV}(hx:opv T x=some ax)(hdo:dstOk c.N (some d)=true)(hnext:RunM c ops hot Q lq ⟨(d,ax)::T,H,M⟩):RunN c ops hot Q i0 false ⟨some d,.assign x,ty,pos,af,none⟩ lq ⟨T,H,M⟩:=ZA (s:=⟨T,H,M⟩) (q_assign hx) rfl hdo hnext
theorem RL_pick_true {x y z:Operand}{ax:AV}(hc:opv T x=some (.pl (.bool true)))(hx:opv T y=some ax)(hdo:dstOk c.N (some d)=true)(hnext:RunL c ops Q rest ⟨(d,ax)::T,H,M⟩):RunL c ops Q (⟨some d,.pick x y z,ty,pos,af,none⟩::rest) ⟨T,H,M⟩:=qi (s:=⟨T,H,M⟩) (q_pick_true hc hx) rfl hdo hnext
theorem RN_pick_true {x y z:Operand}{ax:AV}(hc:opv T x=some (.pl (.bool true)))(hx:opv T y=some ax)(hdo:dstOk c.N (some d)=true)(hnext:RunM c ops hot Q lq ⟨(d,ax)::T,H,M⟩):RunN c ops hot Q i0 false ⟨some d,.pick x y z,ty,pos,af,none⟩ lq ⟨T,H,M⟩:=ZA (s:=⟨T,H,M⟩) (q_pick_true hc hx) rfl hdo hnext
theorem RL_pick_false {x y z:Operand}{ax:AV}(hc:opv T x=some (.pl (.bool false)))(hx:opv T z=some ax)(hdo:dstOk c.N (some d)=true)(hnext:RunL c ops Q rest ⟨(d,ax)::T,H,M⟩):RunL c ops Q (⟨some d,.pick x y z,ty,pos,af,none⟩::rest) ⟨T,H,M⟩:=qi (s:=⟨T,H,M⟩) (q_pick_false hc hx) rfl hdo hnext
theorem RN_pick_false {x y z:Operand}{ax:AV}(hc:opv T x=some (.pl (.bool false)))(hx:opv T z=some ax)(hdo:dstOk c.N (some d)=true)(hnext:RunM c ops hot Q lq ⟨(d,ax)::T,H,M⟩):RunN c ops hot Q i0 false ⟨some d,.pick x y z,ty,pos,af,none⟩ lq ⟨T,H,M⟩:=ZA (s:=⟨T,H,M⟩) (q_pick_false hc hx) rfl hdo hnext
theorem RL_un {op:UnOp}{t:TypeId}{x:Operand}{u r:Value}(hx:opv T x=some (.pl u))(hr: ∀ w',(Op.unary op u).run c.P w'= .ok r w')(hdo:dstOk c.N (some d)=true)(hnext:RunL c ops Q rest ⟨(d,(.pl r))::T,H,M⟩):RunL c ops Q (⟨some d,.unOp op t x,ty,pos,af,none⟩::rest) ⟨T,H,M⟩:=qi (s:=⟨T,H,M⟩) (q_un hx hr) rfl hdo hnext
theorem RN_un {op:UnOp}{t:TypeId}{x:Operand}{u r:Value}(hx:opv T x=some (.pl u))(hr: ∀ w',(Op.unary op u).run c.P w'= .ok r w')(hdo:dstOk c.N (some d)=true)(hnext:RunM c ops hot Q lq ⟨(d,(.pl r))::T,H,M⟩):RunN c ops hot Q i0 false ⟨some d,.unOp op t x,ty,pos,af,none⟩ lq ⟨T,H,M⟩:=ZA (s:=⟨T,H,M⟩) (q_un hx hr) rfl hdo hnext
theorem RL_int {op:BinOp}{t t':TypeId}{x y:Operand}{k:IntKind}{m n:Int}{r:Value}(hx:opv T x=some (.pl (.int k m)))(hy:opv T y=some (.pl (.int k n)))(hr: ∀ w',(binOp op t (.int k m) (.int k n)).run c.P w'= .ok r w')(hdo:dstOk c.N (some d)=true)(hnext:RunL c ops Q rest ⟨(d,(.pl r))::T,H,M⟩):RunL c ops Q (⟨some d,.binOp op t x y t',ty,pos,af,none⟩::rest) ⟨T,H,M⟩:=qi (s:=⟨T,H,M⟩) (q_int hx hy hr) rfl hdo hnext
theorem RN_int {op:BinOp}{t t':TypeId}{x y:Operand}{k:IntKind}{m n:Int}{r:Value}(hx:opv T x=some (.pl (.int k m)))(hy:opv T y=some (.pl (.int k n)))(hr: ∀ w',(binOp op t (.int k m) (.int k n)).run c.P w'= .ok r w')(hdo:dstOk c.N (some d)=true)(hnext:RunM c ops hot Q lq ⟨(d,(.pl r))::T,H,M⟩):RunN c ops hot Q i0 false ⟨some d,.binOp op t x y t',ty,pos,af,none⟩ lq ⟨T,H,M⟩:=ZA (s:=⟨T,H,M⟩) (q_int hx hy hr) rfl hdo hnext
theorem RL_cmp {op:BinOp}{t t':TypeId}{x y:Operand}{k:IntKind}{m n:Int}{b:Bool}(hx:opv T x=some (.pl (.int k m)))(hy:opv T y=some (.pl (.int k n)))(hb:binOp op t (.int k m) (.int k n)=pure (.bool b))(hdo:dstOk c.N (some d)=true)(hnext:RunL c ops Q rest ⟨(d,(.pl (.bool b)))::T,H,M⟩):RunL c ops Q (⟨some d,.binOp op t x y t',ty,pos,af,none⟩::rest) ⟨T,H,M⟩:=qi (s:=⟨T,H,M⟩) (q_cmp hx hy hb) rfl hdo hnext
theorem RN_cmp {op:BinOp}{t t':TypeId}{x y:Operand}{k:IntKind}{m n:Int}{b:Bool}(hx:opv T x=some (.pl (.int k m)))(hy:opv T y=some (.pl (.int k n)))(hb:binOp op t (.int k m) (.int k n)=pure (.bool b))(hdo:dstOk c.N (some d)=true)(hnext:RunM c ops hot Q lq ⟨(d,(.pl (.bool b)))::T,H,M⟩):RunN c ops hot Q i0 false ⟨some d,.binOp op t x y t',ty,pos,af,none⟩ lq ⟨T,H,M⟩:=ZA (s:=⟨T,H,M⟩) (q_cmp hx hy hb) rfl hdo hnext
theorem RL_str {op:BinOp}{t t':TypeId}{x y:Operand}{m n:ByteArray}{r:Value}(hx:opv T x=some (.pl (.string m)))(hy:opv T y=some (.pl (.string n)))(hr: ∀ w',(Op.stringOp op m n).run c.P w'= .ok r w')(hdo:dstOk c.N (some d)=true)(hnext:RunL c ops Q rest ⟨(d,(.pl r))::T,H,M⟩):RunL c ops Q (⟨some d,.binOp op t x y t',ty,pos,af,none⟩::rest) ⟨T,H,M⟩:=qi (s:=⟨T,H,M⟩) (q_str hx hy hr) rfl hdo hnext
theorem RN_str {op:BinOp}{t t':TypeId}{x y:Operand}{m n:ByteArray}{r:Value}(hx:opv T x=some (.pl (.string m)))(hy:opv T y=some (.pl (.string n)))(hr: ∀ w',(Op.stringOp op m n).run c.P w'= .ok r w')(hdo:dstOk c.N (some d)=true)(hnext:RunM c ops hot Q lq ⟨(d,(.pl r))::T,H,M⟩):RunN c ops hot Q i0 false ⟨some d,.binOp op t x y t',ty,pos,af,none⟩ lq ⟨T,H,M⟩:=ZA (s:=⟨T,H,M⟩) (q_str hx hy hr) rfl hdo hnext
theorem RL_bool {op:BinOp}{t t':TypeId}{x y:Operand}{m n r:Bool}{ti:TI}(ht:tget c.U t=some ti)(hd:ti.desc= .bool)(hx:opv T x=some (.pl (.bool m)))(hy:opv T y=some (.pl (.bool n)))(hop:(op= .eql∧r=(m==n))∨(op= .neq∧r= !(m==n)))(hdo:dstOk c.N (some d)=true)(hnext:RunL c ops Q rest ⟨(d,(.pl (.bool r)))::T,H,M⟩):RunL c ops Q (⟨some d,.binOp op t x y t',ty,pos,af,none⟩::rest) ⟨T,H,M⟩:=qi (s:=⟨T,H,M⟩) (q_bool ht hd hx hy hop) rfl hdo hnext
theorem RL_conv_int {src dst:TypeId}{x:Operand}{k:IntKind}{n:Int}{t1 t2:TI}{k2:IntKind}(h1:tget c.U src=some t1)(h2:tget c.U dst=some t2)(hk:t2.desc= .int k2)(hx:opv T x=some (.pl (.int k n)))(hdo:dstOk c.N (some d)=true)(hnext:RunL c ops Q rest ⟨(d,(.pl (.int k2 (k2.wrap n))))::T,H,M⟩):RunL c ops Q (⟨some d,.convert src dst x,ty,pos,af,none⟩::rest) ⟨T,H,M⟩:=qi (s:=⟨T,H,M⟩) (q_conv_int h1 h2 hk hx) rfl hdo hnext
theorem RN_conv_int {src dst:TypeId}{x:Operand}{k:IntKind}{n:Int}{t1 t2:TI}{k2:IntKind}(h1:tget c.U src=some t1)(h2:tget c.U dst=some t2)(hk:t2.desc= .int k2)(hx:opv T x=some (.pl (.int k n)))(hdo:dstOk c.N (some d)=true)(hnext:RunM c ops hot Q lq ⟨(d,(.pl (.int k2 (k2.wrap n))))::T,H,M⟩):RunN c ops hot Q i0 false ⟨some d,.convert src dst x,ty,pos,af,none⟩ lq ⟨T,H,M⟩:=ZA (s:=⟨T,H,M⟩) (q_conv_int h1 h2 hk hx) rfl hdo hnext
theorem RL_extract {x:Operand}{i:Nat}{xs:List AV}{ax:AV}(hx:opv T x=some (.tup xs))(hi:xs[i]? =some ax)(hdo:dstOk c.N (some d)=true)(hnext:RunL c ops Q rest ⟨(d,ax)::T,H,M⟩):RunL c ops Q (⟨some d,.extract x i,ty,pos,af,none⟩::rest) ⟨T,H,M⟩:=qi (s:=⟨T,H,M⟩) (q_extract hx hi) rfl hdo hnext
theorem RN_extract {x:Operand}{i:Nat}{xs:List AV}{ax:AV}(hx:opv T x=some (.tup xs))(hi:xs[i]? =some ax)(hdo:dstOk c.N (some d)=true)(hnext:RunM c ops hot Q lq ⟨(d,ax)::T,H,M⟩):RunN c ops hot Q i0 false ⟨some d,.extract x i,ty,pos,af,none⟩ lq ⟨T,H,M⟩:=ZA (s:=⟨T,H,M⟩) (q_extract hx hi) rfl hdo hnext
theorem RL_field {t:TypeId}{x:Operand}{i:Nat}{xs:List AV}{ti fi:TI}{fs:Array Field}{f:Field}{ax:AV}(ht:tget c.U t=some ti)(hd:ti.desc= .struct fs)(hf:fs[i]? =some f)(hft:tget c.U f.type=some fi)(hfa:aggD fi.desc=false)(hx:opv T x=some (.agg xs))(hi:xs[f.offset]? =some ax)(hdo:dstOk c.N (some d)=true)(hnext:RunL c ops Q rest ⟨(d,ax)::T,H,M⟩):RunL c ops Q (⟨some d,.field t x i,ty,pos,af,none⟩::rest) ⟨T,H,M⟩:=qi (s:=⟨T,H,M⟩) (q_field ht hd hf hft hfa hx hi) rfl hdo hnext
theorem RN_field {t:TypeId}{x:Operand}{i:Nat}{xs:List AV}{ti fi:TI}{fs:Array Field}{f:Field}{ax:AV}(ht:tget c.U t=some ti)(hd:ti.desc= .struct fs)(hf:fs[i]? =some f)(hft:tget c.U f.type=some fi)(hfa:aggD fi.desc=false)(hx:opv T x=some (.agg xs))(hi:xs[f.offset]? =some ax)(hdo:dstOk c.N (some d)=true)(hnext:RunM c ops hot Q lq ⟨(d,ax)::T,H,M⟩):RunN c ops hot Q i0 false ⟨some d,.field t x i,ty,pos,af,none⟩ lq ⟨T,H,M⟩:=ZA (s:=⟨T,H,M⟩) (q_field ht hd hf hft hfa hx hi) rfl hdo hnext
theorem RL_fieldAddr {t:TypeId}{x:Operand}{i:Nat}{ax ay:AV}{ti fi:TI}{fs:Array Field}{f:Field}(ht:tget c.U t=some ti)(hd:ti.desc= .struct fs)(hf:fs[i]? =some f)(hft:tget c.U f.type=some fi)(hne:Nat.beq fi.size 0=false)(hx:opv T x=some ax)(hy:addrOff ax f.offset=some ay)(hdo:dstOk c.N (some d)=true)(hnext:RunL c ops Q rest ⟨(d,ay)::T,H,M⟩):RunL c ops Q (⟨some d,.fieldAddr t x i,ty,pos,af,none⟩::rest) ⟨T,H,M⟩:=qi (s:=⟨T,H,M⟩) (q_fieldAddr ht hd hf hft hne hx hy) rfl hdo hnext
theorem RN_fieldAddr {t:TypeId}{x:Operand}{i:Nat}{ax ay:AV}{ti fi:TI}{fs:Array Field}{f:Field}(ht:tget c.U t=some ti)(hd:ti.desc= .struct fs)(hf:fs[i]? =some f)(hft:tget c.U f.type=some fi)(hne:Nat.beq fi.size 0=false)(hx:opv T x=some ax)(hy:addrOff ax f.offset=some ay)(hdo:dstOk c.N (some d)=true)(hnext:RunM c ops hot Q lq ⟨(d,ay)::T,H,M⟩):RunN c ops hot Q i0 false ⟨some d,.fieldAddr t x i,ty,pos,af,none⟩ lq ⟨T,H,M⟩:=ZA (s:=⟨T,H,M⟩) (q_fieldAddr ht hd hf hft hne hx hy) rfl hdo hnext
theorem RL_nilCheck {x:Operand}{ax ay:AV}(hx:opv T x=some ax)(hy:addrOff ax 0=some ay)(hdo:dstOk c.N (some d)=true)(hnext:RunL c ops Q rest ⟨(d,ax)::T,H,M⟩):RunL c ops Q (⟨some d,.nilCheck x,ty,pos,af,none⟩::rest) ⟨T,H,M⟩:=qi (s:=⟨T,H,M⟩) (q_nilCheck hx hy) rfl hdo hnext
theorem RN_nilCheck {x:Operand}{ax ay:AV}(hx:opv T x=some ax)(hy:addrOff ax 0=some ay)(hdo:dstOk c.N (some d)=true)(hnext:RunM c ops hot Q lq ⟨(d,ax)::T,H,M⟩):RunN c ops hot Q i0 false ⟨some d,.nilCheck x,ty,pos,af,none⟩ lq ⟨T,H,M⟩:=ZA (s:=⟨T,H,M⟩) (q_nilCheck hx hy) rfl hdo hnext
theorem RL_load {t:TypeId}{x:Operand}{ax ay:AV}{cs:List AV}{ti:TI}(ht:tget c.U t=some ti)(ha:aggD ti.desc=false)(hx:opv T x=some ax)(hm:memAt H ax=some cs)(hc:cs.head? =some ay)(hdo:dstOk c.N (some d)=true)(hnext:RunL c ops Q rest ⟨(d,ay)::T,H,M⟩):RunL c ops Q (⟨some d,.load t x,ty,pos,af,none⟩::rest) ⟨T,H,M⟩:=qi (s:=⟨T,H,M⟩) (q_load ht ha hx hm hc) rfl hdo hnext
theorem RN_load {t:TypeId}{x:Operand}{ax ay:AV}{cs:List AV}{ti:TI}(ht:tget c.U t=some ti)(ha:aggD ti.desc=false)(hx:opv T x=some ax)(hm:memAt H ax=some cs)(hc:cs.head? =some ay)(hdo:dstOk c.N (some d)=true)(hnext:RunM c ops hot Q lq ⟨(d,ay)::T,H,M⟩):RunN c ops hot Q i0 false ⟨some d,.load t x,ty,pos,af,none⟩ lq ⟨T,H,M⟩:=ZA (s:=⟨T,H,M⟩) (q_load ht ha hx hm hc) rfl hdo hnext
theorem RL_load_agg {t:TypeId}{x:Operand}{ax:AV}{cs es:List AV}{ti:TI}(ht:tget c.U t=some ti)(ha:aggD ti.desc=true)(hx:opv T x=some ax)(hm:memAt H ax=some cs)(hc:cs.take ti.size=es)(hl:es.length=ti.size)(hdo:dstOk c.N (some d)=true)(hnext:RunL c ops Q rest ⟨(d,(.agg es))::T,H,M⟩):RunL c ops Q (⟨some d,.load t x,ty,pos,af,none⟩::rest) ⟨T,H,M⟩:=qi (s:=⟨T,H,M⟩) (q_load_agg ht ha hx hm hc hl) rfl hdo hnext
theorem RN_load_agg {t:TypeId}{x:Operand}{ax:AV}{cs es:List AV}{ti:TI}(ht:tget c.U t=some ti)(ha:aggD ti.desc=true)(hx:opv T x=some ax)(hm:memAt H ax=some cs)(hc:cs.take ti.size=es)(hl:es.length=ti.size)(hdo:dstOk c.N (some d)=true)(hnext:RunM c ops hot Q lq ⟨(d,(.agg es))::T,H,M⟩):RunN c ops hot Q i0 false ⟨some d,.load t x,ty,pos,af,none⟩ lq ⟨T,H,M⟩:=ZA (s:=⟨T,H,M⟩) (q_load_agg ht ha hx hm hc hl) rfl hdo hnext
theorem RL_alloc {t:TypeId}{ti:TI}{cs:List AV}(ht:tget c.U t=some ti)(hcs:cellsA (ofVal ti.zero)=cs)(hf:fit (ofVal ti.zero)=true)(hb:hget H (nm (some d))=none)(hdo:dstOk c.N (some d)=true)(hnext:RunL c ops Q rest ⟨(d,.ptr (nm (some d)) 0)::T,(nm (some d),.box t cs)::H,M⟩):RunL c ops Q (⟨some d,.alloc t,ty,pos,af,none⟩::rest) ⟨T,H,M⟩:=Jd (s:=⟨T,H,M⟩) (e_alloc ht hcs hf hb hdo).e rfl hnext
theorem RL_box {t:TypeId}{x:Operand}{ax:AV}{cs:List AV}(hx:opv T x=some ax)(hcs:cellsA ax=cs)(hf:fit ax=true)(hb:hget H (nm (some d))=none)(hdo:dstOk c.N (some d)=true)(hnext:RunL c ops Q rest ⟨(d,.ptr (nm (some d)) 0)::T,(nm (some d),.box t cs)::H,M⟩):RunL c ops Q (⟨some d,.box t x,ty,pos,af,none⟩::rest) ⟨T,H,M⟩:=Jd (s:=⟨T,H,M⟩) (e_box hx hcs hf hb hdo).e rfl hnext
theorem RL_store_box {tb:TypeId}{t:TypeId}{x y:Operand}{b o:Nat}{ay:AV}{cs es:List AV}{ti:TI}(ht:tget c.U t=some ti)(hx:opv T x=some (.ptr b o))(hy:opv T y=some ay)(hes:cellsA ay=es)(hf:fit ay=true)(hl:es.length=ti.size)(hb:hget H b=some (.box tb cs))(hin:Nat.ble (o+es.length) cs.length=true)(hnext:RunL c ops Q rest ⟨T,hset H b (.box tb (updL cs o es)),M⟩):RunL c ops Q (⟨none,.store t x y,ty,pos,af,none⟩::rest) ⟨T,H,M⟩:=Jd (s:=⟨T,H,M⟩) (e_store_box ht hx hy hes hf hl hb hin rfl) rfl hnext
theorem RN_store_box {tb:TypeId}{t:TypeId}{x y:Operand}{b o:Nat}{ay:AV}{cs es:List AV}{ti:TI}(ht:tget c.U t=some ti)(hx:opv T x=some (.ptr b o))(hy:opv T y=some ay)(hes:cellsA ay=es)(hf:fit ay=true)(hl:es.length=ti.size)(hb:hget H b=some (.box tb cs))(hin:Nat.ble (o+es.length) cs.length=true)(hh:mem i0 hot=true)(hnext:RunM c ops hot Q lq ⟨T,hset H b (.box tb (updL cs o es)),M⟩):RunN c ops hot Q i0 true ⟨none,.store t x y,ty,pos,af,none⟩ lq ⟨T,H,M⟩:=RunN_e (s:=⟨T,H,M⟩) hh (e_store_box ht hx hy hes hf hl hb hin rfl) rfl hnext
theorem RL_append {t:TypeId}{x y:Operand}{b o n k fz m:Nat}{cs ds:List AV}{ay:AV}{ti ei:TI}{e:TypeId}(ht:tget c.U t=some ti)(htd:ti.desc= .slice e)(he:tget c.U e=some ei)(hk:ei.size=k)(hzs:ei.zero.cells.size=k)(hbp:0<ei.bytes)(hx:opv T x=some (.sl b o n))(hb:hget H b=some (.row e k fz cs))(hin:o+n*k≤cs.length)(hfz:fz≤o+n*k)(hy:opv T y=some ay)(hsrc:srcAt H k ay=some (m,ds))(hds:ds.length=m*k)(hbytes:(n+m)*ei.bytes≤140737488355328)(hdo:dstOk c.N (some d)=true)(hnext:RunL c ops Q rest ⟨(d,.sl b 0 (n+m))::(killT b T),(b,.row e k (fz-o) ((cs.drop o).take (n*k)++ds))::killH b H,b::M⟩):RunL c ops Q (⟨some d,.call {callee:= .builtin .append,args:= #[x,y],argTypes:= #[t,t]},ty,pos,af,none⟩::rest) ⟨T,H,M⟩:=Jd (s:=⟨T,H,M⟩) (e_append ht htd he hk hzs hbp hx hb hin hfz hy hsrc hds hbytes hdo) rfl hnext
theorem RN_append {t:TypeId}{x y:Operand}{b o n k fz m:Nat}{cs ds:List AV}{ay:AV}{ti ei:TI}{e:TypeId}(ht:tget c.U t=some ti)(htd:ti.desc= .slice e)(he:tget c.U e=some ei)(hk:ei.size=k)(hzs:ei.zero.cells.size=k)(hbp:0<ei.bytes)(hx:opv T x=some (.sl b o n))(hb:hget H b=some (.row e k fz cs))(hin:o+n*k≤cs.length)(hfz:fz≤o+n*k)(hy:opv T y=some ay)(hsrc:srcAt H k ay=some (m,ds))(hds:ds.length=m*k)(hbytes:(n+m)*ei.bytes≤140737488355328)(hdo:dstOk c.N (some d)=true)(hh:mem i0 hot=true)(hnext:RunM c ops hot Q lq ⟨(d,.sl b 0 (n+m))::(killT b T),(b,.row e k (fz-o) ((cs.drop o).take (n*k)++ds))::killH b H,b::M⟩):RunN c ops hot Q i0 true ⟨some d,.call {callee:= .builtin .append,args:= #[x,y],argTypes:= #[t,t]},ty,pos,af,none⟩ lq ⟨T,H,M⟩:=RunN_e (s:=⟨T,H,M⟩) hh (e_append ht htd he hk hzs hbp hx hb hin hfz hy hsrc hds hbytes hdo) rfl hnext
theorem RL_len {t:TypeId}{x:Operand}{ax:AV}{n:Nat}{ti:TI}{e:TypeId}(ht:tget c.U t=some ti)(htd:ti.desc= .slice e)(hx:opv T x=some ax)(hn:lenA ax=some n)(hdo:dstOk c.N (some d)=true)(hnext:RunL c ops Q rest ⟨(d,(.pl (.int .i64 (n:Int))))::T,H,M⟩):RunL c ops Q (⟨some d,.call {callee:= .builtin .len,args:= #[x],argTypes:= #[t]},ty,pos,af,none⟩::rest) ⟨T,H,M⟩:=qi (s:=⟨T,H,M⟩) (q_len ht htd hx hn) rfl hdo hnext
theorem RN_len {t:TypeId}{x:Operand}{ax:AV}{n:Nat}{ti:TI}{e:TypeId}(ht:tget c.U t=some ti)(htd:ti.desc= .slice e)(hx:opv T x=some ax)(hn:lenA ax=some n)(hdo:dstOk c.N (some d)=true)(hnext:RunM c ops hot Q lq ⟨(d,(.pl (.int .i64 (n:Int))))::T,H,M⟩):RunN c ops hot Q i0 false ⟨some d,.call {callee:= .builtin .len,args:= #[x],argTypes:= #[t]},ty,pos,af,none⟩ lq ⟨T,H,M⟩:=ZA (s:=⟨T,H,M⟩) (q_len ht htd hx hn) rfl hdo hnext
theorem RL_len_str {t:TypeId}{x:Operand}{b:ByteArray}{ti:TI}(ht:tget c.U t=some ti)(htd:ti.desc= .string)(hx:opv T x=some (.pl (.string b)))(hdo:dstOk c.N (some d)=true)(hnext:RunL c ops Q rest ⟨(d,(.pl (.int .i64 (b.size:Int))))::T,H,M⟩):RunL c ops Q (⟨some d,.call {callee:= .builtin .len,args:= #[x],argTypes:= #[t]},ty,pos,af,none⟩::rest) ⟨T,H,M⟩:=qi (s:=⟨T,H,M⟩) (q_len_str ht htd hx) rfl hdo hnext
theorem RN_len_str {t:TypeId}{x:Operand}{b:ByteArray}{ti:TI}(ht:tget c.U t=some ti)(htd:ti.desc= .string)(hx:opv T x=some (.pl (.string b)))(hdo:dstOk c.N (some d)=true)(hnext:RunM c ops hot Q lq ⟨(d,(.pl (.int .i64 (b.size:Int))))::T,H,M⟩):RunN c ops hot Q i0 false ⟨some d,.call {callee:= .builtin .len,args:= #[x],argTypes:= #[t]},ty,pos,af,none⟩ lq ⟨T,H,M⟩:=ZA (s:=⟨T,H,M⟩) (q_len_str ht htd hx) rfl hdo hnext
theorem RL_index_str {t:TypeId}{x y:Operand}{b:ByteArray}{k:IntKind}{i:Nat}{ti:TI}(ht:tget c.U t=some ti)(htd:ti.desc= .string)(hx:opv T x=some (.pl (.string b)))(hy:opv T y=some (.pl (.int k (i:Int))))(hi:i<b.size)(hdo:dstOk c.N (some d)=true)(hnext:RunL c ops Q rest ⟨(d,(.pl (.int .u8 ((b[i]'hi).toNat:Int))))::T,H,M⟩):RunL c ops Q (⟨some d,.index t x y,ty,pos,af,none⟩::rest) ⟨T,H,M⟩:=qi (s:=⟨T,H,M⟩) (q_index_str ht htd hx hy hi) rfl hdo hnext
theorem RL_slice_vs {t:TypeId}{x:Operand}{lo hi:Option Operand}{n:Nat}{cs ds:List AV}{l h:Nat}{ti ei:TI}{e:TypeId}(ht:tget c.U t=some ti)(htd:ti.desc= .slice e)(he:tget c.U e=some ei)(hx:opv T x=some (.vs n cs))(hlo:bnd T 0 lo=some (l:Int))(hhi:bnd T (n:Int) hi=some (h:Int))(hl:l≤h)(hh:h≤n)(hds:(cs.drop (l*ei.size)).take ((h-l)*ei.size)=ds)(hdo:dstOk c.N (some d)=true)(hnext:RunL c ops Q rest ⟨(d,(.vs (h-l) ds))::T,H,M⟩):RunL c ops Q (⟨some d,.slice t x lo hi none,ty,pos,af,none⟩::rest) ⟨T,H,M⟩:=qi (s:=⟨T,H,M⟩) (q_slice_vs ht htd he hx hlo hhi hl hh hds) rfl hdo hnext
theorem RN_slice_vs {t:TypeId}{x:Operand}{lo hi:Option Operand}{n:Nat}{cs ds:List AV}{l h:Nat}{ti ei:TI}{e:TypeId}(ht:tget c.U t=some ti)(htd:ti.desc= .slice e)(he:tget c.U e=some ei)(hx:opv T x=some (.vs n cs))(hlo:bnd T 0 lo=some (l:Int))(hhi:bnd T (n:Int) hi=some (h:Int))(hl:l≤h)(hh:h≤n)(hds:(cs.drop (l*ei.size)).take ((h-l)*ei.size)=ds)(hdo:dstOk c.N (some d)=true)(hnext:RunM c ops hot Q lq ⟨(d,(.vs (h-l) ds))::T,H,M⟩):RunN c ops hot Q i0 false ⟨some d,.slice t x lo hi none,ty,pos,af,none⟩ lq ⟨T,H,M⟩:=ZA (s:=⟨T,H,M⟩) (q_slice_vs ht htd he hx hlo hhi hl hh hds) rfl hdo hnext
theorem RL_makeFunc {f:Fn}{first cap:Array Operand}{l1 l2:List AV}(h1:opvL T first.toList=some l1)(h2:opvL T cap.toList=some l2)(hdo:dstOk c.N (some d)=true)(hnext:RunL c ops Q rest ⟨(d,(.fn f l1 l2))::T,H,M⟩):RunL c ops Q (⟨some d,.makeFunc f first cap,ty,pos,af,none⟩::rest) ⟨T,H,M⟩:=qi (s:=⟨T,H,M⟩) (q_makeFunc h1 h2) rfl hdo hnext
theorem RL_makeInterface {t:TypeId}{x:Operand}{ax:AV}{ti:TI}(ht:tget c.U t=some ti)(hni:(match ti.desc with| .interface _=>true|_=>false)=false)(hx:opv T x=some ax)(hdo:dstOk c.N (some d)=true)(hnext:RunL c ops Q rest ⟨(d,(.ifc t ax))::T,H,M⟩):RunL c ops Q (⟨some d,.makeInterface t x,ty,pos,af,none⟩::rest) ⟨T,H,M⟩:=qi (s:=⟨T,H,M⟩) (q_makeInterface ht hni hx) rfl hdo hnext
theorem RL_build {t:TypeId}{parts:Array (Nat×Operand)}{ps:List (Nat×AV)}{zs ds:List AV}{ti:TI}{fs:Array Field}(ht:tget c.U t=some ti)(htd:ti.desc= .struct fs)(hfs:fsOk c.U fs.toList=true)(hz:cellsA (ofVal ti.zero)=zs)(hzf:fit (ofVal ti.zero)=true)(hps:partsA T parts.toList=some ps)(hfill:fillA (placeOf c.U fs) zs ps=some ds)(hdo:dstOk c.N (some d)=true)(hnext:RunL c ops Q rest ⟨(d,(.agg ds))::T,H,M⟩):RunL c ops Q (⟨some d,.build t parts,ty,pos,af,none⟩::rest) ⟨T,H,M⟩:=qi (s:=⟨T,H,M⟩) (q_build ht htd hfs hz hzf hps hfill) rfl hdo hnext
theorem RN_build {t:TypeId}{parts:Array (Nat×Operand)}{ps:List (Nat×AV)}{zs ds:List AV}{ti:TI}{fs:Array Field}(ht:tget c.U t=some ti)(htd:ti.desc= .struct fs)(hfs:fsOk c.U fs.toList=true)(hz:cellsA (ofVal ti.zero)=zs)(hzf:fit (ofVal ti.zero)=true)(hps:partsA T parts.toList=some ps)(hfill:fillA (placeOf c.U fs) zs ps=some ds)(hdo:dstOk c.N (some d)=true)(hnext:RunM c ops hot Q lq ⟨(d,(.agg ds))::T,H,M⟩):RunN c ops hot Q i0 false ⟨some d,.build t parts,ty,pos,af,none⟩ lq ⟨T,H,M⟩:=ZA (s:=⟨T,H,M⟩) (q_build ht htd hfs hz hzf hps hfill) rfl hdo hnext
theorem RL_conv_bytes {src dst:TypeId}{x:Operand}{ax:AV}{l:List UInt8}{n:Nat}{ds:List AV}{t1 t2 ei:TI}{e:TypeId}(h1:tget c.U src=some t1)(hd1:t1.desc= .slice e)(he:tget c.U e=some ei)(hek:ei.desc= .int .u8)(h2:tget c.U dst=some t2)(hd2:t2.desc= .string)(hx:opv T x=some ax)(hsrc:srcAt H 1 ax=some (n,ds))(hds:ds=encB l)(hn:l.length=n)(hdo:dstOk c.N (some d)=true)(hnext:RunL c ops Q rest ⟨(d,(.pl (.string ⟨l.toArray⟩)))::T,H,M⟩):RunL c ops Q (⟨some d,.convert src dst x,ty,pos,af,none⟩::rest) ⟨T,H,M⟩:=qi (s:=⟨T,H,M⟩) (q_conv_bytes h1 hd1 he hek h2 hd2 hx hsrc hds hn) rfl hdo hnext
theorem RL_indexAddr_vsD {t:TypeId}{x y:Operand}{n:Nat}{cs ds:List AV}{k:IntKind}{i:Int}{ti ei:TI}{e:TypeId}(ht:tget c.U t=some ti)(htd:ti.desc= .slice e)(he:tget c.U e=some ei)(hx:opv T x=some (.vs n cs))(hy:opv T y=some (.pl (.int k i)))(hi:0≤i∧i<n)(hds:cs.drop (i.toNat*ei.size)=ds)(hdo:dstOk c.N (some d)=true)(hnext:RunL c ops Q rest ⟨(d,(.vptr ds))::T,H,M⟩):RunL c ops Q (⟨some d,.indexAddr t x y,ty,pos,af,none⟩::rest) ⟨T,H,M⟩:=qi (s:=⟨T,H,M⟩) (q_indexAddr_vsD ht htd he hx hy hi hds) rfl hdo hnext
theorem RN_indexAddr_vsD {t:TypeId}{x y:Operand}{n:Nat}{cs ds:List AV}{k:IntKind}{i:Int}{ti ei:TI}{e:TypeId}(ht:tget c.U t=some ti)(htd:ti.desc= .slice e)(he:tget c.U e=some ei)(hx:opv T x=some (.vs n cs))(hy:opv T y=some (.pl (.int k i)))(hi:0≤i∧i<n)(hds:cs.drop (i.toNat*ei.size)=ds)(hdo:dstOk c.N (some d)=true)(hnext:RunM c ops hot Q lq ⟨(d,(.vptr ds))::T,H,M⟩):RunN c ops hot Q i0 false ⟨some d,.indexAddr t x y,ty,pos,af,none⟩ lq ⟨T,H,M⟩:=ZA (s:=⟨T,H,M⟩) (q_indexAddr_vsD ht htd he hx hy hi hds) rfl hdo hnext
theorem RL_buildSliceN {t:TypeId}{n:Nat}{parts:Array (Nat×Operand)}{axs cs:List AV}{ti ei:TI}{e k:Nat}(ht:tget c.U t=some ti)(htd:ti.desc= .slice e)(he:tget c.U e=some ei)(hk:ei.size=k)(hk0:Nat.blt 0 k=true)(hzs:ei.zero.cells.size=k)(hparts:seqB 0 parts.toList=true)(hn:parts.toList.length=n)(hn0:Nat.blt 0 n=true)(hx:opvL T (parts.toList.map (·.2))=some axs)(hfit:fitAll k axs=true)(hcs:cellsL axs=cs)(hlim:Nat.ble (n*k) (2^24)=true)(hb:hget H (nm (some d))=none)(hdo:dstOk c.N (some d)=true)(hnext:RunL c ops Q rest ⟨(d,.sl (nm (some d)) 0 n)::T,(nm (some d),.row e k 0 cs)::H,M⟩):RunL c ops Q (⟨some d,.buildSlice t n parts,ty,pos,af,none⟩::rest) ⟨T,H,M⟩:=Jd (s:=⟨T,H,M⟩) (e_buildSliceN ht htd he hk hk0 hzs hparts hn hn0 hx hfit hcs hlim hb hdo).e rfl hnext
theorem RN_buildSliceN {t:TypeId}{n:Nat}{parts:Array (Nat×Operand)}{axs cs:List AV}{ti ei:TI}{e k:Nat}(ht:tget c.U t=some ti)(htd:ti.desc= .slice e)(he:tget c.U e=some ei)(hk:ei.size=k)(hk0:Nat.blt 0 k=true)(hzs:ei.zero.cells.size=k)(hparts:seqB 0 parts.toList=true)(hn:parts.toList.length=n)(hn0:Nat.blt 0 n=true)(hx:opvL T (parts.toList.map (·.2))=some axs)(hfit:fitAll k axs=true)(hcs:cellsL axs=cs)(hlim:Nat.ble (n*k) (2^24)=true)(hb:hget H (nm (some d))=none)(hdo:dstOk c.N (some d)=true)(hnext:RunM c ops hot Q lq ⟨(d,.sl (nm (some d)) 0 n)::T,(nm (some d),.row e k 0 cs)::H,M⟩):RunN c ops hot Q i0 true ⟨some d,.buildSlice t n parts,ty,pos,af,none⟩ lq ⟨T,H,M⟩:=RunN_eb (s:=⟨T,H,M⟩) (e_buildSliceN ht htd he hk hk0 hzs hparts hn hn0 hx hfit hcs hlim hb hdo) rfl hnext
theorem RL_buildSlice0 {t:TypeId}{parts:Array (Nat×Operand)}{ti ei:TI}{e k:Nat}(ht:tget c.U t=some ti)(htd:ti.desc= .slice e)(he:tget c.U e=some ei)(hk:ei.size=k)(hp:parts= #[])(hb:hget H (nm (some d))=none)(hdo:dstOk c.N (some d)=true)(hnext:RunL c ops Q rest ⟨(d,.sl (nm (some d)) 0 0)::T,(nm (some d),.row e k 0 [])::H,M⟩):RunL c ops Q (⟨some d,.buildSlice t 0 parts,ty,pos,af,none⟩::rest) ⟨T,H,M⟩:=Jd (s:=⟨T,H,M⟩) (e_buildSlice0 ht htd he hk hp hb hdo).e rfl hnext
theorem RN_eq_ints {op:BinOp}{t t':TypeId}{x y:Operand}{k:IntKind}{xs ys:List Int}{ax ay:AV}{r:Bool}{ti:TI}{fs:Array Field}(hsh:c.P.stoodInHeld t=false)(hgt:c.P.eqGuardType c.P.depth t=false)(ht:tget c.U t=some ti)(hd:ti.desc= .struct fs)(hB:intFs c.U k 0 fs.toList=true)(hlx:xs.length=fs.toList.length)(hly:ys.length=fs.toList.length)(hx:opv T x=some ax)(hax:ax= .agg (encIs k xs))(hy:opv T y=some ay)(hay:ay= .agg (encIs k ys))(hop:(op= .eql∧r=(xs==ys))∨(op= .neq∧r= !(xs==ys)))(hdo:dstOk c.N (some d)=true)(hnext:RunM c ops hot Q lq ⟨(d,(.pl (.bool r)))::T,H,M⟩):RunN c ops hot Q i0 false ⟨some d,.binOp op t x y t',ty,pos,af,none⟩ lq ⟨T,H,M⟩:=ZA (s:=⟨T,H,M⟩) (q_eq_ints hsh hgt ht hd hB hlx hly hx hax hy hay hop) rfl hdo hnext
end
end Go.Abs
set_option linter.unusedSectionVars false
namespace Go.Abs
open Go
variable [GTab]
theorem beqF {a b:Nat}(h: ¬ a=b):Nat.beq a b=false:=by
 cases e:Nat.beq a b with
 |false=>rfl
 |true=>exact absurd (Nat.eq_of_beq_eq_true e) h
def lk:List (Nat×Nat)→Nat→Option Nat
 |[],_=>none
 |(a,b)::r,i=>match Nat.beq a i with
  |true=>some b
  |false=>lk r i
def rk:List (Nat×Nat)→Nat→Option Nat
 |[],_=>none
 |(a,b)::r,i=>match Nat.beq b i with
  |true=>some a
  |false=>rk r i
def okS:List (Nat×Nat)→Bool
 |[]=>true
 |(a,b)::r=>(match lk r a with|none=>true|some _=>false)&&((match rk r b with|none=>true|some _=>false)&&okS r)
theorem lk_rk: ∀ {σ:List (Nat×Nat)} (h:okS σ=true) {a b:Nat},lk σ a=some b→rk σ b=some a
 |[],_,a,b,hl=>by cases hl
 |(x,y)::r,h,a,b,hl=>by
  simp only [okS,Bool.and_eq_true] at h
  obtain ⟨h1,h2,h3⟩:=h
  simp only [lk] at hl
  split at hl
  ·rename_i e;cases hl
   obtain rfl:=Nat.eq_of_beq_eq_true e
   simp [rk]
  ·have ih:=lk_rk h3 hl
   simp only [rk]
   split
   ·rename_i e
    obtain rfl:=Nat.eq_of_beq_eq_true e
    rw [ih] at h2;cases h2
   ·exact ih
theorem rk_lk: ∀ {σ:List (Nat×Nat)} (h:okS σ=true) {a b:Nat},rk σ b=some a→lk σ a=some b
 |[],_,a,b,hl=>by cases hl
 |(x,y)::r,h,a,b,hl=>by
  simp only [okS,Bool.and_eq_true] at h
  obtain ⟨h1,h2,h3⟩:=h
  simp only [rk] at hl
  split at hl
  ·rename_i e;cases hl
   obtain rfl:=Nat.eq_of_beq_eq_true e
   simp [lk]
  ·have ih:=rk_lk h3 hl
   simp only [lk]
   split
   ·rename_i e
    obtain rfl:=Nat.eq_of_beq_eq_true e
    rw [ih] at h1;cases h1
   ·exact ih
def reL (σ:List (Nat×Nat)):AV→AV
 | .nptr z b o=>match lk σ b with|some b'=> .nptr z b' o|none=> .junk
 | .sl b o n=>match lk σ b with|some b'=> .sl b' o n|none=> .junk
 | .mp b=>match lk σ b with|some b'=> .mp b'|none=> .junk
 | .it b=>match lk σ b with|some b'=> .it b'|none=> .junk
 |x=>x
def pickS (σ:List (Nat×Nat)):List (Nat×Nat)→List (Nat×AObj)→Option (List (Nat×AObj))
 |[],_=>some []
 |(a,b)::r,H=>match hget H a with
  |some o=>match pickS σ r H with
   |some l=>some ((b,o.mapN (reL σ))::l)
   |none=>none
  |none=>none
theorem hget_pickS {σ:List (Nat×Nat)}: ∀ {τ:List (Nat×Nat)} {H H':List (Nat×AObj)} (h:pickS σ τ H=some H') (i:Nat),
 hget H' i=match rk τ i with|some a=>(hget H a).map (AObj.mapN (reL σ))|none=>none
 |[],H,H',h,i=>by cases h;rfl
 |(a,b)::r,H,H',h,i=>by
  simp only [pickS] at h
  split at h
  ·rename_i o ho
   split at h
   ·rename_i l hl
    cases h
    have ih:=hget_pickS hl i
    rw [qd]
    simp only [rk]
    by_cases e:b=i
    ·subst e;simp [ho]
    ·rw [if_neg e,ih]
     have:Nat.beq b i=false:=beqF e
     simp only [this]
   ·cases h
  ·cases h
def hnames:List (Nat×AObj)→List Nat
 |[]=>[]
 |(b,_)::r=>b::hnames r
theorem hnames_mem: ∀ {H:List (Nat×AObj)} {b:Nat} {o:AObj},hget H b=some o→mem b (hnames H)=true
 |[],b,o,h=>by cases h
 |(j,x)::r,b,o,h=>by
  rw [qd] at h
  rw [hnames,mem_cons]
  by_cases e:j=b
  ·simp [e]
  ·rw [if_neg e] at h;simp [hnames_mem h]
def okM (σ:List (Nat×Nat))(M M':List Nat):List Nat→Bool
 |[]=>true
 |b::r=>(mem b M'||((match lk σ b with|some b'=>Nat.beq b' b|none=>false)&& !mem b M))&&okM σ M M' r
theorem okM_get {σ:List (Nat×Nat)}{M M':List Nat}: ∀ {N:List Nat} (h:okM σ M M' N=true) {b:Nat},mem b N=true→mem b M'=false→lk σ b=some b∧mem b M=false
 |[],_,b,hb,_=>by cases hb
 |x::r,h,b,hb,hm=>by
  simp only [okM,Bool.and_eq_true,Bool.or_eq_true,Bool.not_eq_true'] at h
  obtain ⟨h1,h2⟩:=h
  rw [mem_cons] at hb
  by_cases e:x=b
  ·subst e
   rcases h1 with h1|⟨h1,h3⟩
   ·rw [hm] at h1;cases h1
   ·split at h1
    ·rename_i b' hl
     rw [Nat.eq_of_beq_eq_true h1] at hl
     exact ⟨hl,h3⟩
    ·cases h1
  ·have hb':mem b r=true:=by simpa [e] using hb
   exact okM_get h2 hb' hm
theorem oneCell_own {F:Nat→Prop}{β:Emb}{w:World}{x:AV}{v:Value}(hx:x.leaf=true)(h:VRel F β w x v):v.oneCell'=true:=by
 cases h with
 |ptr hp hn=>rfl
 |pnil=>rfl
 |sl hp hn hc hl=>rfl
 |slz hp ha=>rfl
 |mp hp hn=>rfl
 |it hp hn=>rfl
 |c h=>cases h<;>cases hx
 |agg=>cases hx
 |tup=>cases hx
 |fn=>cases hx
 |ifc=>cases hx
 |anyp=>cases hx
 |junk=>cases hx
 |gone=>cases hx
def reB (σ:List (Nat×Nat))(β:Emb):Emb:=fun b=>match rk σ b with|some a=>β a|none=>none
theorem Qq {σ:List (Nat×Nat)}{β:Emb}{b:Nat}{p:Place}:reB σ β b=some p↔ ∃ a,rk σ b=some a∧β a=some p:=by
 simp only [reB]
 cases rk σ b<;>simp
theorem reB_own {σ:List (Nat×Nat)}{β:Emb}{k:Nat}(h:own (reB σ β) k):own β k:=by
 obtain ⟨b,p,hp,hn,hk⟩:=h;obtain ⟨a,_,ha⟩:=Qq.1 hp;exact ⟨a,p,ha,hn,hk⟩
theorem reL_rel {F:Nat→Prop}{β:Emb}{w:World}{σ:List (Nat×Nat)}(hσ:okS σ=true)(x:AV)(v:Value)(hx:x.leaf=true)(hv:VRel F β w x v):VRel F (reB σ β) w (reL σ x) v:=by
 have h1:=oneCell_own hx hv
 cases hv with
 | @ptr i o p hp hn=>
  simp only [reL];split
  ·rename_i b' e;exact .ptr (Qq.2 ⟨_,lk_rk hσ e,hp⟩) hn
  ·exact .junk h1
 | @pnil i o=>
  simp only [reL];split
  ·exact .pnil
  ·exact .junk h1
 | @sl i o n c p hp hn hc hl=>
  simp only [reL];split
  ·rename_i b' e;exact .sl (Qq.2 ⟨_,lk_rk hσ e,hp⟩) hn hc hl
  ·exact .junk h1
 | @slz i o a p hp ha=>
  simp only [reL];split
  ·rename_i b' e;exact .slz (Qq.2 ⟨_,lk_rk hσ e,hp⟩) ha
  ·exact .junk h1
 | @mp i p hp hn=>
  simp only [reL];split
  ·rename_i b' e;exact .mp (Qq.2 ⟨_,lk_rk hσ e,hp⟩) hn
  ·exact .junk h1
 | @it i p hp hn=>
  simp only [reL];split
  ·rename_i b' e;exact .it (Qq.2 ⟨_,lk_rk hσ e,hp⟩) hn
  ·exact .junk h1
 |c h=>cases h<;>cases hx
 |agg=>cases hx
 |tup=>cases hx
 |fn=>cases hx
 |ifc=>cases hx
 |anyp=>cases hx
 |junk=>cases hx
 |gone=>cases hx
theorem HRel.re {F:Nat→Prop}{β:Emb}{H H':List (Nat×AObj)}{w:World}(h:HRel F β H w){σ:List (Nat×Nat)}(hσ:okS σ=true)(hH:pickS σ σ H=some H'):HRel F (reB σ β) H' w:=by
 have hO: ∀ k,off F (reB σ β) k→off F β k∨w.heap.size≤k:=fun k hk=> .inl (hk.imp id reB_own)
 refine ⟨fun b o ho=> ?_,fun b p hp=> ?_,fun b b' p p' hp hp' hn hn' hbb=> ?_,h.fresh,fun b p hp=> ?_,h.glob.mono (Nat.le_refl _) hO (fun _ _ _=>rfl)⟩
 ·rw [hget_pickS hH] at ho
  split at ho
  ·rename_i a ha
   rw [Option.map_eq_some_iff] at ho
   obtain ⟨ob,hob,rfl⟩:=ho;obtain ⟨p,hp,hr⟩:=h.obj a ob hob;exact ⟨p,Qq.2 ⟨a,ha,hp⟩,hr.mapN (Nat.le_refl _) hO (fun _ _ _=>rfl) (reL_rel hσ) (fun _=>rfl)⟩
  ·cases ho
 ·obtain ⟨a,ha,hp⟩:=Qq.1 hp;obtain ⟨o,ho⟩:=h.dom a p hp;exact ⟨_,by rw [hget_pickS hH,ha];simp only [ho];rfl⟩
 ·obtain ⟨a,ha,hp⟩:=Qq.1 hp;obtain ⟨a',ha',hp'⟩:=Qq.1 hp'
  have:=h.inj a a' p p' hp hp' hn hn' hbb
  subst this
  have h1:=rk_lk hσ ha
  have h2:=rk_lk hσ ha'
  rw [h1] at h2;cases h2;rfl
 ·obtain ⟨a,ha,hp⟩:=Qq.1 hp;exact h.apart a p hp
theorem Sat.re {c:Ctx}{T:List (Nat×AV)}{H H':List (Nat×AObj)}{M M' N:List Nat}{a:Act}{w:World}(h:Sat c ⟨T,H,M⟩ a w)(σ:List (Nat×Nat))(hσ:okS σ=true)(hH:pickS σ σ H=some H')
 (hN: ∀ b p,c.β0 b=some p→mem b N=true) (hM:okM σ M M' N=true):Sat c ⟨mapT (reL σ) T,H',M'⟩ a w:=by
 obtain ⟨β,hs⟩:=h
 have hO: ∀ k,off c.F (reB σ β) k→off c.F β k∨w.heap.size≤k:=fun k hk=> .inl (hk.imp id reB_own)
 refine ⟨reB σ β,hs.defers,hs.size,hs.heap.re hσ hH,fun i x hx=> ?_,?_,fun b p hp hm=> ?_⟩
 ·rw [get_mapT,Option.map_eq_some_iff] at hx
  obtain ⟨y,hy,rfl⟩:=hx;obtain ⟨u,hu,hr⟩:=hs.slot i y hy;exact ⟨u,hu,hr.mapN (Nat.le_refl _) hO (fun _ _ _=>rfl) (reL_rel hσ)⟩
 ·exact ⟨hs.keeps.os,hs.keeps.tape,hs.keeps.output,hs.keeps.size,hs.keeps.block,fun k hk=>hs.keeps.grows k (reB_own hk)⟩
 ·obtain ⟨h1,h2⟩:=okM_get hM (hN b p hp) hm;exact Qq.2 ⟨b,lk_rk hσ h1,hs.stay b p hp h2⟩
theorem Sat.to {c:Ctx}{T T':List (Nat×AV)}{H H':List (Nat×AObj)}{M M' N:List Nat}{a:Act}{w:World}(h:Sat c ⟨T,H,M⟩ a w)(σ:List (Nat×Nat))(hσ:okS σ=true)(hH:pickS σ σ H=some H')
 (hT:Sub T' (mapT (reL σ) T)) (hN: ∀ b p,c.β0 b=some p→mem b N=true) (hM:okM σ M M' N=true):Sat c ⟨T',H',M'⟩ a w:=(h.re σ hσ hH hN hM).sub hT
def XSpec (P:Program)(k:FuncId)(args:List AV)(H:List (Nat×AObj))(r:AV)(H':List (Nat×AObj))(mv:List Nat):Prop:=ASpec P k args H (fun r' H'' M=>r'=r∧H''=H'∧M=mv)
theorem PSpec.x {P:Program}{k:FuncId}{args:List AV}{r:AV}(h:PSpec P k args r):XSpec P k args [] r [] []:=
 ⟨h.1,fun F β w vs hH ha=>(h.2 F β w vs hH ha).mono fun e w' ⟨r',v,H',M,β',he,⟨h1,h2⟩,h3,h4,h5,h6⟩=>⟨r',v,H',[],β',he,⟨h1,h2,rfl⟩,h3,h4,h5,fun b p hp=>by obtain ⟨o,ho⟩:=hH.dom b p hp;cases ho⟩⟩
theorem XSpec.p {P:Program}{k:FuncId}{args:List AV}{r:AV}(h:XSpec P k args [] r [] []):PSpec P k args r:=ASpec.mono h fun r' H M ⟨h1,h2,_⟩=>⟨h1,h2⟩
theorem zd {P:Program}{U:List (Nat×TI)}(hU:TabOk P U){k:FuncId}{fn:Func}{code:Code}{args:List AV}{H:List (Nat×AObj)}{Q:Post}(hf:P.funcs[k]? =some fn)
 (h: ∀ F β w,(∀ b p,β b=some p→mem b (hnames H)=true)→Run ⟨P,U,hU,F,β,w,fn.ntmps,[]⟩ (bodyPost P fn (Rpost Q F β w)) code ⟨enumT 0 args,H,[]⟩)
 (hb:fn.body=some code:=by exact rfl) (hname:(fn.name== "runtime.NumGoroutine")=false:=by kernel_rfl) (hn:Nat.ble args.length fn.ntmps=true:=by exact rfl):ASpec P k args H Q:=
 ASpec_of_run' hU hf hb hname hn fun F β w hβ=>h F β w fun b p hp=>let ⟨o,ho⟩:=hβ b p hp;hnames_mem ho
theorem ret_x {P:Program}{U:List (Nat×TI)}{hU:TabOk P U}{F:Nat→Prop}{β:Emb}{w0:World}{N:Nat}{fn:Func}{T:List (Nat×AV)}{H H':List (Nat×AObj)}{M Nm mv:List Nat}{r r':AV}(σ:List (Nat×Nat))
 (hN: ∀ b p,β b=some p→mem b Nm=true) (hres:resAV U T H fn.results.toList=some r') (hσ:okS σ=true) (hr:r'.mapN (reL σ)=r) (hH:pickS σ σ H=some H') (hM:okM σ M mv Nm=true) {a:Act} {w:World} (hs:Sat ⟨P,U,hU,F,β,w0,N,[]⟩ ⟨T,H,M⟩ a w):
 a.defers=[]∧ ∃ v,(results fn a.tmps).run P w= .ok v w∧Rpost (fun x H'' M'=>x=r∧H''=H'∧M'=mv) F β w0 (.returned v) w:=by
 obtain ⟨β',hs⟩:=hs;obtain ⟨u,hu,hv⟩:=run_results hs hres
 have hO: ∀ k,off F (reB σ β') k→off F β' k∨w.heap.size≤k:=fun k hk=> .inl (hk.imp id reB_own)
 refine ⟨hs.defers,u,hu,r,u,H',mv,reB σ β',rfl,⟨rfl,rfl,rfl⟩,hs.heap.re hσ hH,?_,?_,fun b p hp hm=> ?_⟩
 ·rw [←hr];exact VRel.mapN (Nat.le_refl _) hO (fun _ _ _=>rfl) (reL_rel hσ) hv
 ·exact ⟨hs.keeps.os,hs.keeps.tape,hs.keeps.output,hs.keeps.size,hs.keeps.block,fun k hk=>hs.keeps.grows k (reB_own hk)⟩
 ·obtain ⟨h1,h2⟩:=okM_get hM (hN b p hp) hm;exact Qq.2 ⟨b,lk_rk hσ h1,hs.stay b p hp h2⟩
def swp:List (Nat×Nat)→Nat→Nat
 |[],i=>i
 |(a,b)::r,i=>match Nat.beq i a with
  |true=>b
  |false=>match Nat.beq i b with
   |true=>a
   |false=>swp r i
def swN:List (Nat×Nat)→List Nat
 |[]=>[]
 |(a,b)::r=>a::b::swN r
def nodupB:List Nat→Bool
 |[]=>true
 |x::r=> !mem x r&&nodupB r
theorem swp_out: ∀ {ws:List (Nat×Nat)} {i:Nat},mem i (swN ws)=false→swp ws i=i
 |[],_,_=>rfl
 |(a,b)::r,i,h=>by
  simp only [swN,mem_cons,Bool.or_eq_false_iff,decide_eq_false_iff_not] at h
  simp only [swp]
  split
  ·rename_i e;exact absurd (Nat.eq_of_beq_eq_true e).symm h.1
  ·split
   ·rename_i e;exact absurd (Nat.eq_of_beq_eq_true e).symm h.2.1
   ·exact swp_out h.2.2
theorem swp_in: ∀ {ws:List (Nat×Nat)} {i:Nat},mem i (swN ws)=true→mem (swp ws i) (swN ws)=true
 |[],_,h=>by cases h
 |(a,b)::r,i,h=>by
  simp only [swp]
  split
  ·simp [swN,mem_cons]
  ·rename_i e1
   split
   ·simp [swN,mem_cons]
   ·rename_i e2
    have e1:=Nat.ne_of_beq_eq_false e1
    have e2:=Nat.ne_of_beq_eq_false e2
    have h':mem i (swN r)=true:=by simpa [swN,mem_cons,Ne.symm e1,Ne.symm e2] using h
    simp [swN,mem_cons,swp_in h']
theorem swp_swp: ∀ {ws:List (Nat×Nat)} (h:nodupB (swN ws)=true) (i:Nat),swp ws (swp ws i)=i
 |[],_,_=>rfl
 |(a,b)::r,h,i=>by
  simp only [swN,nodupB,Bool.and_eq_true,Bool.not_eq_true',mem_cons,Bool.or_eq_false_iff,decide_eq_false_iff_not] at h
  obtain ⟨⟨hba,ha⟩,hb,hr⟩:=h
  by_cases e1:i=a
  ·subst e1
   simp only [swp,Nat.beq_refl]
   split
   ·rename_i e;exact Nat.eq_of_beq_eq_true e
   ·rfl
  ·by_cases e2:i=b
   ·subst e2
    have:Nat.beq i a=false:=beqF hba
    simp only [swp,this,Nat.beq_refl]
   ·have b1:Nat.beq i a=false:=beqF e1
    have b2:Nat.beq i b=false:=beqF e2
    have h0:swp ((a,b)::r) i=swp r i:=by simp only [swp,b1,b2]
    rw [h0]
    have ne:swp r i≠a∧swp r i≠b:=by
     cases hm:mem i (swN r) with
     |true=>
      have:=swp_in hm
      exact ⟨fun e=>(by rw [e,ha] at this;cases this),fun e=>(by rw [e,hb] at this;cases this)⟩
     |false=>rw [swp_out hm];exact ⟨e1,e2⟩
    have c1:Nat.beq (swp r i) a=false:=beqF ne.1
    have c2:Nat.beq (swp r i) b=false:=beqF ne.2
    simp only [swp,c1,c2]
    exact swp_swp hr i
def swL (ws:List (Nat×Nat)):AV→AV
 | .nptr z b o=> .nptr z (swp ws b) o
 | .sl b o n=> .sl (swp ws b) o n
 | .mp b=> .mp (swp ws b)
 | .it b=> .it (swp ws b)
 |x=>x
def swH (ws:List (Nat×Nat)):List (Nat×AObj)→List (Nat×AObj)
 |[]=>[]
 |(b,o)::r=>(swp ws b,o.mapN (swL ws))::swH ws r
theorem hget_swH {ws:List (Nat×Nat)}(hw:nodupB (swN ws)=true): ∀ (H:List (Nat×AObj)) (i:Nat),hget (swH ws H) i=(hget H (swp ws i)).map (AObj.mapN (swL ws))
 |[],i=>rfl
 |(b,o)::r,i=>by
  rw [swH,qd,qd,hget_swH hw r]
  by_cases e:swp ws b=i
  ·have:b=swp ws i:=by rw [←e,swp_swp hw]
   rw [if_pos e,if_pos this];rfl
  ·have:b≠swp ws i:=fun h=>e (by rw [h,swp_swp hw])
   rw [if_neg e,if_neg this]
def swB (ws:List (Nat×Nat))(β:Emb):Emb:=fun b=>β (swp ws b)
theorem swB_own {ws:List (Nat×Nat)}(hw:nodupB (swN ws)=true){β:Emb}{k:Nat}:own (swB ws β) k↔own β k:=by
 constructor
 ·rintro ⟨b,p,hp,hn,hk⟩;exact ⟨_,p,hp,hn,hk⟩
 ·rintro ⟨b,p,hp,hn,hk⟩;exact ⟨swp ws b,p,by simp only [swB,swp_swp hw];exact hp,hn,hk⟩
theorem swB_off {ws:List (Nat×Nat)}(hw:nodupB (swN ws)=true){F:Nat→Prop}{β:Emb}{k:Nat}:off F (swB ws β) k↔off F β k:=by simp [off,swB_own hw]
theorem swL_rel {F:Nat→Prop}{β:Emb}{w:World}{ws:List (Nat×Nat)}(hw:nodupB (swN ws)=true)(x:AV)(v:Value)(hx:x.leaf=true)(hv:VRel F β w x v):VRel F (swB ws β) w (swL ws x) v:=by
 have key: ∀ {b p},β b=some p→swB ws β (swp ws b)=some p:=fun {b p} hp=>by simp only [swB,swp_swp hw];exact hp
 cases hv with
 |ptr hp hn=>exact .ptr (key hp) hn
 |pnil=>exact .pnil
 |sl hp hn hc hl=>exact .sl (key hp) hn hc hl
 |slz hp ha=>exact .slz (key hp) ha
 |mp hp hn=>exact .mp (key hp) hn
 |it hp hn=>exact .it (key hp) hn
 |c h=>cases h<;>cases hx
 |agg=>cases hx
 |tup=>cases hx
 |fn=>cases hx
 |ifc=>cases hx
 |anyp=>cases hx
 |junk=>cases hx
 |gone=>cases hx
theorem VRel.sw {F:Nat→Prop}{β:Emb}{w:World}{ws:List (Nat×Nat)}(hw:nodupB (swN ws)=true){x:AV}{v:Value}(h:VRel F β w x v):VRel F (swB ws β) w (x.mapN (swL ws)) v:=
 VRel.mapN (Nat.le_refl _) (fun k hk=> .inl ((swB_off hw).1 hk)) (fun _ _ _=>rfl) (swL_rel hw) h
theorem HRel.sw {F:Nat→Prop}{β:Emb}{H:List (Nat×AObj)}{w:World}{ws:List (Nat×Nat)}(hw:nodupB (swN ws)=true)(h:HRel F β H w):HRel F (swB ws β) (swH ws H) w:=by
 refine ⟨fun b o ho=> ?_,fun b p hp=> ?_,fun b b' p p' hp hp' hn hn' hbb=> ?_,h.fresh,fun b p hp=>h.apart _ p hp,h.glob.mono (Nat.le_refl _) (fun k hk=> .inl ((swB_off hw).1 hk)) (fun _ _ _=>rfl)⟩
 ·rw [hget_swH hw,Option.map_eq_some_iff] at ho
  obtain ⟨ob,hob,rfl⟩:=ho;obtain ⟨p,hp,hr⟩:=h.obj _ ob hob;exact ⟨p,hp,hr.mapN (Nat.le_refl _) (fun k hk=> .inl ((swB_off hw).1 hk)) (fun _ _ _=>rfl) (swL_rel hw) (fun _=>rfl)⟩
 ·obtain ⟨o,ho⟩:=h.dom _ p hp;exact ⟨_,by rw [hget_swH hw,ho];rfl⟩
 ·have:=h.inj _ _ p p' hp hp' hn hn' hbb
  rw [←swp_swp hw b,this,swp_swp hw]
theorem mem_map_swp {ws:List (Nat×Nat)}(hw:nodupB (swN ws)=true)(i:Nat): ∀ l:List Nat,mem i (l.map (swp ws))=mem (swp ws i) l
 |[]=>rfl
 |x::r=>by
  rw [List.map_cons,mem_cons,mem_cons,mem_map_swp hw i r]
  congr 1
  have:(swp ws x=i)=(x=swp ws i):=propext ⟨fun h=>by rw [←h,swp_swp hw],fun h=>by rw [h,swp_swp hw]⟩
  simp only [this]
theorem XSpec.sw {P:Program}{k:FuncId}{args args0:List AV}{H H0 H':List (Nat×AObj)}{r:AV}{mv:List Nat}(ws:List (Nat×Nat))(h:XSpec P k args H r H' mv)(hw:nodupB (swN ws)=true)(ha:AV.mapNL (swL ws) args0=args)(hH:swH ws H0=H):
 XSpec P k args0 H0 (r.mapN (swL ws)) (swH ws H') (mv.map (swp ws)):=by
 refine ⟨h.1,fun F β w vs hH0 hA=> ?_⟩
 have hA':Args F (swB ws β) w args vs:=by
  rw [←ha,mapNL_map]
  refine ⟨by simpa using hA.1,fun i x v hx hv=> ?_⟩
  rw [List.getElem?_map,Option.map_eq_some_iff] at hx
  obtain ⟨y,hy,rfl⟩:=hx;exact (hA.2 i y v hy hv).sw hw
 refine (h.2 F (swB ws β) w vs (by rw [←hH];exact hH0.sw hw) hA').mono ?_
 rintro e w' ⟨r',v,H'',M,β',he,⟨rfl,rfl,rfl⟩,h1,h2,h3,h4⟩
 refine ⟨_,v,_,_,swB ws β',he,⟨rfl,rfl,rfl⟩,h1.sw hw,h2.sw hw,?_,fun b p hp hm=> ?_⟩
 ·exact ⟨h3.os,h3.tape,h3.output,h3.size,fun i hi hn=>h3.block i hi (fun ho=>hn ((swB_own hw).1 ho)),fun i hi=>(h3.grows i ((swB_own hw).1 hi)).imp (swB_own hw).1 id⟩
 ·rw [mem_map_swp hw] at hm
  exact h4 _ p (by simp only [swB,swp_swp hw];exact hp) hm
end Go.Abs
namespace Go.Abs
open Go
variable [GTab]
def kiL (ms:List Nat):AV→AV
 | .nptr z b o=>match mem b ms with|true=> .junk|false=> .nptr z b o
 | .sl b o n=>match mem b ms with|true=> .junk|false=> .sl b o n
 | .mp b=>match mem b ms with|true=> .junk|false=> .mp b
 | .it b=>match mem b ms with|true=> .junk|false=> .it b
 |x=>x
def kiT (ms:List Nat)(T:List (Nat×AV)):List (Nat×AV):=match ms with|[]=>T|a::r=>mapT (kiL (a::r)) T
def kiH (ms:List Nat)(H:List (Nat×AObj)):List (Nat×AObj):=match ms with|[]=>H|a::r=>mapH (kiL (a::r)) H
theorem kiL_nil (x:AV):kiL [] x=x:=by cases x<;>rfl
mutual
theorem mapN_same {f:AV→AV}(h: ∀ x,f x=x): ∀ x:AV,x.mapN f=x
 | .agg cs=>by rw [AV.mapN,mapNL_same h cs]
 | .tup cs=>by rw [AV.mapN,mapNL_same h cs]
 | .fn g cs ds=>by rw [AV.mapN,mapNL_same h cs,mapNL_same h ds]
 | .ifc t x=>by rw [AV.mapN,mapN_same h x]
 | .nptr z b o=>by rw [AV.mapN,h]
 | .sl b o n=>by rw [AV.mapN,h]
 | .mp b=>by rw [AV.mapN,h]
 | .it b=>by rw [AV.mapN,h]
 | .pl v=>rfl
 | .optr z cs=>rfl
 | .vs n cs=>rfl
 | .vm _ _=>rfl
 | .anyp=>rfl
 | .junk=>rfl
 | .gone=>rfl
theorem mapNL_same {f:AV→AV}(h: ∀ x,f x=x): ∀ l:List AV,AV.mapNL f l=l
 |[]=>rfl
 |x::r=>by rw [AV.mapNL,mapN_same h x,mapNL_same h r]
end
theorem objN_same {f:AV→AV}(h: ∀ x,f x=x)(o:AObj):o.mapN f=o:=by
 cases o<;>simp [AObj.mapN,mapNL_same h]
theorem get_kiT (ms:List Nat)(T:List (Nat×AV))(i:Nat):get (kiT ms T) i=(get T i).map (AV.mapN (kiL ms)):=by
 cases ms with
 |nil=>
  show get T i=_
  cases get T i with
  |none=>rfl
  |some x=>rw [Option.map_some,mapN_same kiL_nil]
 |cons a r=>exact get_mapT _ T i
theorem hget_kiH (ms:List Nat)(H:List (Nat×AObj))(i:Nat):hget (kiH ms H) i=(hget H i).map (AObj.mapN (kiL ms)):=by
 cases ms with
 |nil=>
  show hget H i=_
  cases hget H i with
  |none=>rfl
  |some x=>rw [Option.map_some,objN_same kiL_nil]
 |cons a r=>exact hget_mapH _ H i
theorem SatB_calledX {c:Ctx}{s:St}{β:Emb}{a:Act}{w w':World}(hs:SatB c s β a w){ns mv:List Nat}{β1:Emb}{H1:List (Nat×AObj)}
 (hH:HRel (Fout c.F ns β) β1 H1 w') (hk:Keeps (cut ns β) w β1 w') (hstay: ∀ b p,cut ns β b=some p→mem b mv=false→β1 b=some p) (hap:hapart H1 (hrest ns s.H)=true):
 SatB c ⟨kiT mv s.T,H1++kiH mv (hrest ns s.H),mv++s.M⟩ (join β1 (rst ns β)) a w'∧ ∀ x v,VRel (Fout c.F ns β) β1 w' x v→VRel c.F (join β1 (rst ns β)) w' x v:=by
 have hclash: ∀ b p q,β1 b=some p→rst ns β b=some q→False:=fun b p q h1 h2=>by
  obtain ⟨o,ho⟩:=hH.dom b p h1;obtain ⟨hm,h2⟩:=ZC.1 h2;obtain ⟨o',ho'⟩:=hs.heap.dom b q h2
  have:=hapart_get hap ho
  rw [zar,hm] at this
  simp at this
  rw [this] at ho';cases ho'
 have hj1: ∀ b p,β1 b=some p→join β1 (rst ns β) b=some p:=fun b p h=>by simp only [join,h]
 have hj2: ∀ b p,rst ns β b=some p→join β1 (rst ns β) b=some p:=fun b p h=>by
  cases h1:β1 b with
  |some q=>exact (hclash b q p h1 h).elim
  |none=>simp only [join,h1];exact h
 have hinv: ∀ b p,join β1 (rst ns β) b=some p→β1 b=some p∨rst ns β b=some p:=fun b p h=>by
  simp only [join] at h
  cases h1:β1 b with
  |some q=>rw [h1] at h;cases h;exact .inl rfl
  |none=>rw [h1] at h;exact .inr h
 have hβ: ∀ b p,mem b mv=false→β b=some p→join β1 (rst ns β) b=some p:=fun b p hmv h=>by
  cases hm:mem b ns with
  |true=>exact hj1 b p (hstay b p (qV.2 ⟨hm,h⟩) hmv)
  |false=>exact hj2 b p (ZC.2 ⟨hm,h⟩)
 have hown: ∀ k,own (join β1 (rst ns β)) k→own β k∨w.heap.size≤k:=by
  rintro k ⟨b,p,hp,hn,hkk⟩
  rcases hinv b p hp with h|h
  ·exact (hk.grows k ⟨b,p,h,hn,hkk⟩).imp (QB fun b p hp=>(qV.1 hp).2) id
  ·exact .inl ⟨b,p,(ZC.1 h).2,hn,hkk⟩
 have hO: ∀ k,off c.F (join β1 (rst ns β)) k→off c.F β k∨w.heap.size≤k:=fun k h=>h.elim (fun h=> .inl (.inl h)) (fun h=>(hown k h).imp .inr id)
 have hO1: ∀ k,off c.F (join β1 (rst ns β)) k→off (Fout c.F ns β) β1 k:=by
  rintro k (h|⟨b,p,hp,hn,hkk⟩)
  ·exact .inl (.inl h)
  ·rcases hinv b p hp with h|h
   ·exact .inr ⟨b,p,h,hn,hkk⟩
   ·exact .inl (.inr ⟨b,p,h,hn,hkk⟩)
 have hw: ∀ k,k<w.heap.size→ ¬ off c.F β k→w'.heap[k]? =w.heap[k]? :=fun k hk' hno=>hk.block k hk' (fun h=>hno (.inr (QB (fun b p hp=>(qV.1 hp).2) h)))
 have hleaf: ∀ x v,x.leaf=true→VRel c.F β w x v→VRel c.F (join β1 (rst ns β)) w' (kiL mv x) v:=by
  intro x v hx hv
  have h1c:=oneCell_own hx hv
  cases hv with
  |ptr hp hn=>
   simp only [kiL];split
   ·exact .junk h1c
   ·rename_i e;exact .ptr (hβ _ _ e hp) hn
  |pnil=>
   simp only [kiL];split
   ·exact .junk h1c
   ·exact .pnil
  |sl hp hn hc hl=>
   simp only [kiL];split
   ·exact .junk h1c
   ·rename_i e;exact .sl (hβ _ _ e hp) hn hc hl
  |slz hp ha=>
   simp only [kiL];split
   ·exact .junk h1c
   ·rename_i e;exact .slz (hβ _ _ e hp) ha
  |mp hp hn=>
   simp only [kiL];split
   ·exact .junk h1c
   ·rename_i e;exact .mp (hβ _ _ e hp) hn
  |it hp hn=>
   simp only [kiL];split
   ·exact .junk h1c
   ·rename_i e;exact .it (hβ _ _ e hp) hn
  |c h=>cases h<;>cases hx
  |agg=>cases hx
  |tup=>cases hx
  |fn=>cases hx
  |ifc=>cases hx
  |anyp=>cases hx
  |junk=>cases hx
  |gone=>cases hx
 have hup: ∀ x v,VRel (Fout c.F ns β) β1 w' x v→VRel c.F (join β1 (rst ns β)) w' x v:=fun x v h=>by
  induction h with
  |c h=>exact .c (h.mono (Nat.le_refl _) (fun k hk=> .inl (hO1 k hk)) (fun _ _ _=>rfl))
  |agg hl _ ih=>exact .agg hl ih
  |tup hl _ ih=>exact .tup hl ih
  |fn hl _ hl2 _ ih ih2=>exact .fn hl ih hl2 ih2
  |ifc _ ih=>exact .ifc ih
  |ptr hp hn=>exact .ptr (hj1 _ _ hp) hn
  |pnil=>exact .pnil
  |sl hp hn hc hl=>exact .sl (hj1 _ _ hp) hn hc hl
  |slz hp ha=>exact .slz (hj1 _ _ hp) ha
  |mp hp hn=>exact .mp (hj1 _ _ hp) hn
  |it hp hn=>exact .it (hj1 _ _ hp) hn
  |anyp=>exact .anyp
  |junk h=>exact .junk h
  |gone=>exact .gone
 have hupO: ∀ p o,ORel (Fout c.F ns β) β1 w' p o→ORel c.F (join β1 (rst ns β)) w' p o:=fun p o h=>by
  cases o with
  |row te k fz cs=>
   obtain ⟨h1,h2,h3⟩:=h;refine ⟨h1,h2,fun hn=> ?_⟩;obtain ⟨cv,fr,ht,h4,h5,h6,h7⟩:=h3 hn;exact ⟨cv,fr,ht,h4,h5,fun i x hx=>let ⟨v,hv,hc,h1c⟩:=h6 i x hx;⟨v,hv,hc.mono (Nat.le_refl _) (fun k hk=> .inl (hO1 k hk)) (fun _ _ _=>rfl),h1c⟩,h7⟩
  |box tb cs=>
   obtain ⟨h1,cv,fr,ht,h5,h6,h7⟩:=h;exact ⟨h1,cv,fr,ht,h5,fun i x hx=>let ⟨v,hv,hc,h1c⟩:=h6 i x hx;⟨v,hv,hup _ _ hc,h1c⟩,h7⟩
  |map es=>
   obtain ⟨h1,ms,clock,h2,h3,h4,h5⟩:=h;refine ⟨h1,ms,clock,h2,h3,fun i x e hx he=> ?_,h5⟩;obtain ⟨q1,q2,q3⟩:=h4 i x e hx he;exact ⟨q1.mono (Nat.le_refl _) (fun k hk=> .inl (hO1 k hk)) (fun _ _ _=>rfl),q2.mono (Nat.le_refl _) (fun k hk=> .inl (hO1 k hk)) (fun _ _ _=>rfl),q3⟩
  |siter sx pos=>exact h
 refine ⟨⟨hs.defers,hs.size,⟨fun b o hg=> ?_,fun b p hp=> ?_,fun b b' p p' hp hp' hn hn' hbb=> ?_,fun k hk'=>Nat.lt_of_lt_of_le (hs.heap.fresh k hk') hk.size,fun b p hp hn hF=> ?_,hs.heap.glob.mono hk.size hO hw⟩,fun i x hx=> ?_,?_,fun b p hp hm=> ?_⟩,hup⟩
 ·rw [hget_append] at hg
  cases h1:hget H1 b with
  |some o1=>
   rw [h1] at hg;cases hg
   obtain ⟨p,hp,hr⟩:=hH.obj b o h1;exact ⟨p,hj1 b p hp,hupO p o hr⟩
  |none=>
   rw [h1] at hg
   simp only at hg
   rw [hget_kiH,zar] at hg
   split at hg
   ·cases hg
   ·rename_i hm
    rw [Option.map_eq_some_iff] at hg
    obtain ⟨ob,hob,rfl⟩:=hg;obtain ⟨p,hp,hr⟩:=hs.heap.obj b ob hob;refine ⟨p,hj2 b p (ZC.2 ⟨by simpa using hm,hp⟩),hr.mapN hk.size hO hw hleaf fun hn=>hk.block _ (hs.heap.blk_lt hp hn) ?_⟩
    rintro ⟨b',p',hp',hn',hkk⟩
    obtain ⟨hm',hp'⟩:=qV.1 hp'
    have:=hs.heap.inj b b' p p' hp hp' hn hn' hkk.symm
    subst this
    exact hm hm'
 ·rw [hget_append]
  rcases hinv b p hp with h|h
  ·obtain ⟨o,ho⟩:=hH.dom b p h;exact ⟨o,by rw [ho]⟩
  ·have hc:hget H1 b=none:=by
    cases h1:hget H1 b with
    |none=>rfl
    |some o1=>obtain ⟨p1,hp1,_⟩:=hH.obj b o1 h1;exact (hclash b p1 p hp1 h).elim
   obtain ⟨hm,h⟩:=ZC.1 h;obtain ⟨o,ho⟩:=hs.heap.dom b p h;exact ⟨_,by rw [hc];simp only;rw [hget_kiH,zar,hm];simp only [Bool.false_eq_true,if_false,ho];rfl⟩
 ·rcases hinv b p hp with h|h<;>rcases hinv b' p' hp' with h'|h'
  ·exact hH.inj b b' p p' h h' hn hn' hbb
  ·exact (hH.apart b p h hn (.inr ⟨b',p',h',hn',hbb.symm⟩)).elim
  ·exact (hH.apart b' p' h' hn' (.inr ⟨b,p,h,hn,hbb⟩)).elim
  ·exact hs.heap.inj b b' p p' (ZC.1 h).2 (ZC.1 h').2 hn hn' hbb
 ·rcases hinv b p hp with h|h
  ·exact hH.apart b p h hn (.inl hF)
  ·exact hs.heap.apart b p (ZC.1 h).2 hn hF
 ·rw [get_kiT,Option.map_eq_some_iff] at hx
  obtain ⟨y,hy,rfl⟩:=hx;obtain ⟨v,hv,hr⟩:=hs.slot i y hy;exact ⟨v,hv,hr.mapN hk.size hO hw hleaf⟩
 ·exact hs.keeps.trans ⟨hk.os,hk.tape,hk.output,hk.size,fun k hk' hno=>hk.block k hk' (fun h=>hno (QB (fun b p hp=>(qV.1 hp).2) h)),hown⟩
 ·rw [mem_append,Bool.or_eq_false_iff] at hm
  exact hβ b p hm.1 (hs.stay b p hp hm.2)
section
variable {c:Ctx} {Q:Exit→Act→World→Prop} {T:List (Nat×AV)} {H H1 H2 H':List (Nat×AObj)} {M mv:List Nat} {ops:Array Oper} {rest:List Oper} {d:Option Tmp} {ty:TypeId} {pos:String} {af:Array Edge} {cl:Call} {k:FuncId} {first cap es args:List AV} {r:AV} {hot:List Nat} {l:Plan} {i:Nat}
theorem xcalls (ns:List Nat)(hspec:XSpec c.P k args H1 r H' mv){β:Emb}{a:Act}{w:World}(hs:SatB c ⟨T,H,M⟩ β a w){vs:List Value}(hA:Args c.F β w args vs)
 (hH1:hpick ns H=H1) (hok:honly ns H1=true) (hon:AV.onlyL ns args=true) (hH2:hrest ns H=H2) (hap:hapart H' H2=true) (hdo:dstOk c.N d=true):
 Calls c.P k vs.toArray w (fun e w'=> ∃ v,e= .returned v∧Sat c ⟨putT (kiT mv T) d r,H'++kiH mv H2,mv++M⟩ (a.put d v) w'∧(ns=[]→RowKit.Below w.heap.size w w')):=by
 subst hH1 hH2
 have hH:HRel (Fout c.F ns β) (cut ns β) (hpick ns H) w:=hs.heap.cut hok
 have hA':Args (Fout c.F ns β) (cut ns β) w args vs:=⟨hA.1,fun i x v hx hv=>
  (hA.2 i x v hx hv).only (Nat.le_refl _) (fun k hk=> .inl (off_cut.1 hk)) (fun _ _ _=>rfl) (fun b p hm hp=>qV.2 ⟨hm,hp⟩) (AV.onlyL_get hon hx)⟩
 refine (hspec.2 (Fout c.F ns β) (cut ns β) w vs hH hA').mono ?_
 rintro e w' ⟨r',v,H'',M',β',rfl,⟨rfl,rfl,rfl⟩,hH',hv,hkp,hst⟩
 obtain ⟨hs',hup⟩:=SatB_calledX hs hH' hkp hst hap;refine ⟨v,rfl,⟨_,hs'.put hdo (hup _ _ hv)⟩,?_⟩
 rintro rfl
 refine hkp.below fun k hk=> ?_;obtain ⟨b,p,hp,_⟩:=hk
 have:=(qV.1 hp).1
 cases this
theorem RL_callX (ns:List Nat)(hspec:XSpec c.P k args H1 r H' mv)(hk:calleeOf T cl.callee=some (k,first,cap))(ha:opvL T cl.args.toList=some es)(hargs:first++es++cap=args)
 (hH1:hpick ns H=H1) (hok:honly ns H1=true) (hon:AV.onlyL ns args=true) (hH2:hrest ns H=H2) (hap:hapart H' H2=true) (hdo:dstOk c.N d=true)
 (hnext:RunL c ops Q rest ⟨putT (kiT mv T) d r,H'++kiH mv H2,mv++M⟩):RunL c ops Q (⟨d,.call cl,ty,pos,af,none⟩::rest) ⟨T,H,M⟩:=by
 rintro a w ⟨β,hs⟩
 obtain ⟨vs,hA,hrun⟩:=zat (o:=⟨d,.call cl,ty,pos,af,none⟩) hs hk ha hspec.1 rfl;refine wpList_plain rfl fun K hK=> ?_;unfold Oper.wp
 rw [hrun w,Oper.upon_enter]
 refine (xcalls ns hspec hs (by rw [←hargs];exact hA) hH1 hok hon hH2 hap hdo).mono ?_
 rintro e w' ⟨v,rfl,hs',_⟩
 exact hK _ _ (hnext _ _ hs')
theorem RN_callX (ns:List Nat)(hh:ns=[]∨mem i hot=true)(hspec:XSpec c.P k args H1 r H' mv)(hk:calleeOf T cl.callee=some (k,first,cap))(ha:opvL T cl.args.toList=some es)(hargs:first++es++cap=args)
 (hH1:hpick ns H=H1) (hok:honly ns H1=true) (hon:AV.onlyL ns args=true) (hH2:hrest ns H=H2) (hap:hapart H' H2=true) (hdo:dstOk c.N d=true)
 (hnext:RunM c ops hot Q l ⟨putT (kiT mv T) d r,H'++kiH mv H2,mv++M⟩):RunN c ops hot Q i true ⟨d,.call cl,ty,pos,af,none⟩ l ⟨T,H,M⟩:=by
 rintro g hi hwt a w ⟨β,hs⟩
 simp only [Plan.step,wpMix,wpOp,hi,(hwt a w β hs).trans (Jn rfl _),if_true]
 refine .inl ?_;obtain ⟨vs,hA,hrun⟩:=zat (o:=⟨d,.call cl,ty,pos,af,g⟩) hs hk ha hspec.1 rfl;unfold Oper.wp
 rw [hrun w,Oper.upon_enter]
 refine (xcalls ns hspec hs (by rw [←hargs];exact hA) hH1 hok hon hH2 hap hdo).mono ?_
 rintro e w' ⟨v,rfl,hs',hb⟩
 exact ⟨hh.elim (fun h=> .inr (hb h)) .inl,hnext _ _ hs'⟩
end
def dropW:Nat→List AV→List AV
 |0,cs=>cs
 |o+1,cs=>cs.drop (o+1)
theorem dropW_eq (o:Nat)(cs:List AV):dropW o cs=cs.drop o:=by cases o<;>rfl
def frzW (b:Nat)(cs:List AV):AV→AV
 | .nptr z i o=>match Nat.beq i b with|true=> .optr z (dropW o cs)|false=> .nptr z i o
 | .sl i o n=>match Nat.beq i b with|true=> .vs n (dropW o cs)|false=> .sl i o n
 | .mp i=>match Nat.beq i b with|true=> .gone|false=> .mp i
 | .it i=>match Nat.beq i b with|true=> .gone|false=> .it i
 |x=>x
theorem Sat.frzW {c:Ctx}{T:List (Nat×AV)}{H:List (Nat×AObj)}{M:List Nat}{a:Act}{w:World}(h:Sat c ⟨T,H,M⟩ a w){b:Nat}{ob:AObj}{cs:List AV}(hb:hget H b=some ob)(hcs:cellsOf ob=some cs):
 Sat c ⟨mapT (Abs.frzW b cs) T,mapH (Abs.frzW b cs) (hdel H b),b::M⟩ a w:=by
 obtain ⟨β,hs⟩:=h;obtain ⟨p0,hp0,hro⟩:=hs.heap.obj b _ hb
 let β':Emb:=fun i=>if b=i then none else β i
 have hβ': ∀ i q,β' i=some q→b≠i∧β i=some q:=fun i q hq=>by
  by_cases e:b=i
  ·simp [β',e] at hq
  ·simp only [β',if_neg e] at hq;exact ⟨e,hq⟩
 have hβ: ∀ i q,i≠b→β i=some q→β' i=some q:=fun i q hi hq=>by show (if b=i then none else β i)=some q;rw [if_neg (Ne.symm hi)];exact hq
 have hO: ∀ k,off c.F β' k→off c.F β k∨w.heap.size≤k:=fun k hk=> .inl (hk.imp id (QB fun i p hp=>(hβ' i p hp).2))
 have hw: ∀ k,k<w.heap.size→ ¬ off c.F β k→w.heap[k]? =w.heap[k]? :=fun _ _ _=>rfl
 have hoff:p0.nil=false→ ¬ off c.F β' p0.blk:=by
  intro hn
  rintro (hF|⟨j,q,hq,hqn,hqb⟩)
  ·exact hs.heap.apart b p0 hp0 hn hF
  ·obtain ⟨h1,h2⟩:=hβ' j q hq;exact h1 (hs.heap.inj b j p0 q hp0 h2 hn hqn hqb.symm)
 have hcell:p0.nil=false→p0.blk<w.heap.size∧ ∀ (i:Nat) (x:AV),cs[i]? =some x→ ∃ u,w.cell? ⟨p0.blk,p0.st+i,none⟩=some u∧CRel (off c.F β') w x u∧u.oneCell'=true:=fun hn=>
  ⟨hs.heap.blk_lt hp0 hn,fun i x hx=>let ⟨u,hu,hc,h1⟩:=hs.cells_of hp0 hb hcs hn i x hx;⟨u,hu,hc.mono (Nat.le_refl _) hO hw,h1⟩⟩
 have hnilcs:p0.nil=true→cs=[]:=by
  intro hn
  cases ob with
  |row te k' fz ds=>cases hcs;exact hro.2.1 hn
  |box tb ds=>have:=hro.1;rw [hn] at this;cases this
  |map es=>cases hcs
  |siter sx pos=>cases hcs
 have hleaf: ∀ x v,x.leaf=true→VRel c.F β w x v→VRel c.F β' w (Abs.frzW b cs x) v:=by
  intro x v hx hv
  cases hv with
  | @ptr i o p hp hn=>
   simp only [Abs.frzW];split
   ·rename_i e;obtain rfl:=Nat.eq_of_beq_eq_true e
    rw [hp0] at hp;cases hp
    obtain ⟨hlt,hce⟩:=hcell hn
    rw [dropW_eq]
    refine .c (VRel.vptr_mk (hoff hn) hlt fun i x hx=> ?_)
    rw [List.getElem?_drop] at hx
    rw [Nat.add_assoc]
    exact hce _ x hx
   ·rename_i e;exact .ptr (hβ _ _ (Nat.ne_of_beq_eq_false e) hp) hn
  | @pnil i o=>
   simp only [Abs.frzW];split
   ·exact .c .vnil
   ·exact .pnil
  | @sl i o n cap p hp hn hcap hl=>
   simp only [Abs.frzW];split
   ·rename_i e;obtain rfl:=Nat.eq_of_beq_eq_true e
    rw [hp0] at hp;cases hp
    obtain ⟨hlt,hce⟩:=hcell hn
    rw [dropW_eq]
    refine .c (VRel.vs_mk hcap (hoff hn) hlt fun i x hx=> ?_)
    rw [List.getElem?_drop] at hx
    rw [Nat.add_assoc]
    exact hce _ x hx
   ·rename_i e;exact .sl (hβ _ _ (Nat.ne_of_beq_eq_false e) hp) hn hcap hl
  | @slz i o a p hp ha=>
   simp only [Abs.frzW];split
   ·rename_i e;obtain rfl:=Nat.eq_of_beq_eq_true e
    exact .c .vs0
   ·rename_i e;exact .slz (hβ _ _ (Nat.ne_of_beq_eq_false e) hp) ha
  | @mp i p hp hn=>
   simp only [Abs.frzW];split
   ·exact .gone
   ·rename_i e;exact .mp (hβ _ _ (Nat.ne_of_beq_eq_false e) hp) hn
  | @it i p hp hn=>
   simp only [Abs.frzW];split
   ·exact .gone
   ·rename_i e;exact .it (hβ _ _ (Nat.ne_of_beq_eq_false e) hp) hn
  |c h=>cases h<;>cases hx
  |agg=>cases hx
  |tup=>cases hx
  |fn=>cases hx
  |ifc=>cases hx
  |anyp=>cases hx
  |junk=>cases hx
  |gone=>cases hx
 refine ⟨β',hs.defers,hs.size,⟨fun i ob hg=> ?_,fun i q hq=> ?_,fun i j q r hq hr=>hs.heap.inj i j q r (hβ' i q hq).2 (hβ' j r hr).2,hs.heap.fresh,fun i q hq=>hs.heap.apart i q (hβ' i q hq).2,hs.heap.glob.mono (Nat.le_refl _) hO hw⟩,fun i x hx=> ?_,?_,fun i q hq hm=> ?_⟩
 ·rw [hget_mapH,hget_hdel] at hg
  by_cases e:b=i
  ·rw [if_pos e] at hg;cases hg
  ·rw [if_neg e,Option.map_eq_some_iff] at hg
   obtain ⟨ob,ho,rfl⟩:=hg;obtain ⟨q,hq,hr⟩:=hs.heap.obj i ob ho;exact ⟨q,hβ i q (Ne.symm e) hq,hr.mapN (Nat.le_refl _) hO hw hleaf (fun _=>rfl)⟩
 ·obtain ⟨ob,ho⟩:=hs.heap.dom i q (hβ' i q hq).2;exact ⟨_,by rw [hget_mapH,hget_hdel,if_neg (hβ' i q hq).1,ho];rfl⟩
 ·rw [get_mapT,Option.map_eq_some_iff] at hx
  obtain ⟨y,hy,rfl⟩:=hx;obtain ⟨u,hu,hr⟩:=hs.slot i y hy;exact ⟨u,hu,hr.mapN (Nat.le_refl _) hO hw hleaf⟩
 ·exact ⟨hs.keeps.os,hs.keeps.tape,hs.keeps.output,hs.keeps.size,hs.keeps.block,fun k hk=>hs.keeps.grows k (QB (fun i p hp=>(hβ' i p hp).2) hk)⟩
 ·rw [mem_cons,Bool.or_eq_false_iff,decide_eq_false_iff_not] at hm
  exact hβ i q (Ne.symm hm.1) (hs.stay i q hq hm.2)
def brwW (H:List (Nat×AObj)):AV→AV
 | .nptr z b o=>match hget H b with
  |some ob=>match cellsOf ob with
   |some cs=> .optr z (dropW o cs)
   |none=> .gone
  |none=> .gone
 | .sl b o n=>match hget H b with
  |some (.row _ k _ cs)=> .vs n (dropW o cs)
  |_=> .gone
 |_=> .gone
theorem SatB.borrowW {c:Ctx}{s:St}{β:Emb}{a:Act}{w:World}(hs:SatB c s β a w){x:AV}{v:Value}(h:VRel c.F β w x v):VRel c.F noEmb w (x.mapN (brwW s.H)) v:=by
 have hO: ∀ b,off c.F noEmb b→off c.F β b∨w.heap.size≤b:=fun b hb=> .inl (hb.elim .inl (fun h=>(JI _ h).elim))
 have hwk: ∀ b,b<w.heap.size→ ¬ off c.F β b→w.heap[b]? =w.heap[b]? :=fun _ _ _=>rfl
 have hoff: ∀ {b p},β b=some p→p.nil=false→ ¬ off c.F noEmb p.blk:=fun hp hn h=>h.elim (hs.heap.apart _ _ hp hn) (JI _)
 refine h.mapN (Nat.le_refl _) hO hwk fun y u hy hu=> ?_
 cases hu with
 | @ptr b o p hp hn=>
  simp only [brwW]
  split
  ·rename_i ob hb
   split
   ·rename_i cs hcs
    rw [dropW_eq]
    refine .c (VRel.vptr_mk (hoff hp hn) (hs.heap.blk_lt hp hn) fun i x hx=> ?_)
    rw [List.getElem?_drop] at hx
    obtain ⟨u,hu,hr,h1⟩:=hs.cells_of hp hb hcs hn _ x hx;exact ⟨u,by rw [Nat.add_assoc];exact hu,hr.mono (Nat.le_refl _) hO hwk,h1⟩
   ·exact .gone
  ·exact .gone
 | @pnil b o=>
  simp only [brwW]
  split
  ·split
   ·exact .c .vnil
   ·exact .gone
  ·exact .gone
 | @sl b o n cap p hp hn hcap hl=>
  simp only [brwW]
  split
  ·rename_i k fz cs hb
   rw [dropW_eq]
   refine .c (VRel.vs_mk hcap (hoff hp hn) (hs.heap.blk_lt hp hn) fun i x hx=> ?_)
   rw [List.getElem?_drop] at hx
   obtain ⟨u,hu,hr,h1⟩:=hs.cells_of hp hb rfl hn _ x hx;exact ⟨u,by rw [Nat.add_assoc];exact hu,hr.mono (Nat.le_refl _) hO hwk,h1⟩
  ·exact .gone
 | @slz b o a p hp ha=>
  simp only [brwW]
  split
  ·exact .c .vs0
  ·exact .gone
 | @mp b p hp hn=>exact .gone
 | @it b p hp hn=>exact .gone
 |c h=>cases h<;>cases hy
 |agg=>cases hy
 |tup=>cases hy
 |fn=>cases hy
 |ifc=>cases hy
 |anyp=>cases hy
 |junk=>cases hy
 |gone=>cases hy
section
variable {c:Ctx} {Q:Exit→Act→World→Prop} {T:List (Nat×AV)} {H:List (Nat×AObj)} {M:List Nat} {ops:Array Oper} {rest:List Oper} {hot:List Nat} {l:Plan} {i:Nat} {d:Option Tmp} {ty:TypeId} {pos:String} {af:Array Edge} {cl:Call} {k:FuncId} {first cap es args:List AV} {r:AV}
theorem borrow_callsW (hspec:PSpec c.P k args r){β:Emb}{a:Act}{w:World}(hs:SatB c ⟨T,H,M⟩ β a w){vs:List Value}(hA:Args c.F β w (first++es++cap) vs)(hargs:AV.mapNL (brwW H) (first++es++cap)=args)(hr:r.flat=true):
 Calls c.P k vs.toArray w (fun e w'=> ∃ v,e= .returned v∧BelowD w w'∧ ∀ F' β' w'',VRel F' β' w'' r v):=by
 have hH:HRel c.F noEmb [] w:=⟨(fun b o h=>by cases h),(fun b p h=>by cases h),(fun b b' p p' h=>by cases h),hs.heap.fresh,(fun b p h=>by cases h),hs.heap.glob.mono (Nat.le_refl _) (fun _ hk=> .inl (hk.elim .inl (fun h=>(JI _ h).elim))) (fun _ _ _=>rfl)⟩
 have hA':Args c.F noEmb w args vs:=by
  rw [←hargs,mapNL_map]
  refine ⟨by simpa using hA.1,fun i x v hx hv=> ?_⟩
  rw [List.getElem?_map,Option.map_eq_some_iff] at hx
  obtain ⟨y,hy,rfl⟩:=hx;exact hs.borrowW (hA.2 i y v hy hv)
 refine (hspec.2 c.F noEmb w vs hH hA').mono ?_
 rintro e w' ⟨r',v,H',M',β',rfl,⟨rfl,rfl⟩,hH',hv,hkp,_⟩
 exact ⟨v,rfl,hkp.belowD JI,fun F' β'' w''=>hv.flat hr⟩
theorem RL_callB (hspec:PSpec c.P k args r)(hk:calleeOf T cl.callee=some (k,first,cap))(ha:opvL T cl.args.toList=some es)(hargs:AV.mapNL (brwW H) (first++es++cap)=args)(hr:r.flat=true)(hdo:dstOk c.N d=true)
 (hnext:RunL c ops Q rest ⟨putT T d r,H,M⟩):RunL c ops Q (⟨d,.call cl,ty,pos,af,none⟩::rest) ⟨T,H,M⟩:=by
 rintro a w ⟨β,hs⟩
 obtain ⟨vs,hA,hrun⟩:=zat (o:=⟨d,.call cl,ty,pos,af,none⟩) hs hk ha hspec.1 rfl;refine wpList_plain rfl fun K hK=> ?_;unfold Oper.wp
 rw [hrun w,Oper.upon_enter]
 refine (borrow_callsW hspec hs hA hargs hr).mono ?_
 rintro e w' ⟨v,rfl,hb,hv⟩
 exact hK _ _ (hnext _ _ ⟨β,(hs.later hb).put hdo (hv _ _ _)⟩)
theorem RN_callB (hspec:PSpec c.P k args r)(hk:calleeOf T cl.callee=some (k,first,cap))(ha:opvL T cl.args.toList=some es)(hargs:AV.mapNL (brwW H) (first++es++cap)=args)(hr:r.flat=true)(hdo:dstOk c.N d=true)
 (hnext:RunM c ops hot Q l ⟨putT T d r,H,M⟩):RunN c ops hot Q i true ⟨d,.call cl,ty,pos,af,none⟩ l ⟨T,H,M⟩:=by
 rintro g hi hwt a w ⟨β,hs⟩
 simp only [Plan.step,wpMix,wpOp,hi,(hwt a w β hs).trans (Jn rfl _),if_true]
 refine .inl ?_;obtain ⟨vs,hA,hrun⟩:=zat (o:=⟨d,.call cl,ty,pos,af,g⟩) hs hk ha hspec.1 rfl;unfold Oper.wp
 rw [hrun w,Oper.upon_enter]
 refine (borrow_callsW hspec hs hA hargs hr).mono ?_
 rintro e w' ⟨v,rfl,hb,hv⟩
 exact ⟨.inr hb.1,hnext _ _ ⟨β,(hs.later hb).put hdo (hv _ _ _)⟩⟩
end
end Go.Abs
namespace W
universe u v
variable {σ:Type u} {ρ:Type v} {α β:Type}
def iterN (f:σ→Option (σ⊕ρ)):Nat→σ→Option ρ
 |0,_=>none
 |n+1,s=>(f s).bind (Sum.elim (iterN f n) some)
noncomputable def lim (g:Nat→Option ρ):Option ρ:=open Classical in if h: ∃ n q,g n=some q then some h.choose_spec.choose else none
theorem lim_some {g:Nat→Option ρ}{q:ρ}(h:lim g=some q): ∃ n,g n=some q:=by
 unfold lim at h
 split at h
 ·rename_i e
  cases h
  exact ⟨e.choose,e.choose_spec.choose_spec⟩
 ·cases h
theorem lim_of {g:Nat→Option ρ}{q:ρ}(hu: ∀ n q',g n=some q'→q'=q){n:Nat}(h:g n=some q):lim g=some q:=by
 have e: ∃ n q,g n=some q:=⟨n,q,h⟩
 unfold lim
 rw [dif_pos e]
 exact congrArg some (hu _ _ e.choose_spec.choose_spec)
noncomputable def iter (f:σ→Option (σ⊕ρ))(s:σ):Option ρ:=lim fun n=>iterN f n s
theorem iterN_mono (f:σ→Option (σ⊕ρ)): ∀ (n m:Nat) (s:σ) (q:ρ),n≤m→iterN f n s=some q→iterN f m s=some q
 |0,m,s,q,_,h=>by cases h
 |n+1,0,s,q,hl,h=>by omega
 |n+1,m+1,s,q,hl,h=>by
  simp only [iterN] at h ⊢
  cases hf:f s with
  |none=>rw [hf] at h;cases h
  |some t=>
   rw [hf] at h
   cases t with
   |inl s'=>exact iterN_mono f n m s' q (by omega) h
   |inr q'=>exact h
theorem iterN_one (f:σ→Option (σ⊕ρ)){n m:Nat}{s:σ}{q q':ρ}(h:iterN f n s=some q)(h':iterN f m s=some q'):q'=q:=by
 have h1:=iterN_mono f n (max n m) s q (by omega) h
 have h2:=iterN_mono f m (max n m) s q' (by omega) h'
 rw [h1] at h2;cases h2;rfl
theorem iterN_of {f:σ→Option (σ⊕ρ)}{s:σ}{q:ρ}(h:iter f s=some q): ∃ n,iterN f n s=some q:=lim_some h
theorem iter_of {f:σ→Option (σ⊕ρ)}{s:σ}{q:ρ}{n:Nat}(h:iterN f n s=some q):iter f s=some q:=lim_of (fun _ _ h'=>iterN_one f h h') h
theorem zt {f:σ→Option (σ⊕ρ)}{s s':σ}(h:f s=some (.inl s')):iter f s=iter f s':=by
 have key: ∀ q,iter f s=some q↔iter f s'=some q:=fun q=>by
  constructor
  ·intro hq
   obtain ⟨n,hn⟩:=iterN_of hq
   cases n with
   |zero=>cases hn
   |succ n=>simp only [iterN,h] at hn;exact iter_of hn
  ·intro hq
   obtain ⟨n,hn⟩:=iterN_of hq;exact iter_of (n:=n+1) (by simp only [iterN,h];exact hn)
 cases h1:iter f s with
 |some q=>exact ((key q).1 h1).symm
 |none=>
  cases h2:iter f s' with
  |some q=>rw [(key q).2 h2] at h1;cases h1
  |none=>rfl
theorem zg {f:σ→Option (σ⊕ρ)}{s:σ}{q:ρ}(h:f s=some (.inr q)):iter f s=some q:=iter_of (n:=1) (by simp [iterN,h])
theorem iter_none {f:σ→Option (σ⊕ρ)}{s:σ}(h:f s=none):iter f s=none:=by
 cases h1:iter f s with
 |none=>rfl
 |some q=>
  obtain ⟨n,hn⟩:=iterN_of h1
  cases n with
  |zero=>cases hn
  |succ n=>simp [iterN,h] at hn
def at' (l:List α)(i:Int):Option α:=bif decide (0≤i) then l[i.toNat]? else none
def sub' (l:List α)(i j:Int):Option (List α):=bif decide (0≤i∧i≤j∧j≤l.length) then some ((l.drop i.toNat).take (j.toNat-i.toNat)) else none
def app (sz:Nat)(l m:List α):Option (List α):=bif decide ((l.length+m.length)*sz≤140737488355328) then some (l++m) else none
def cat (l m:List UInt8):Option (List UInt8):=bif decide (l.length+m.length≤9223372036854775807) then some (l++m) else none
def put (l:List α)(i:Int)(a:α):Option (List α):=bif decide (0≤i∧i<l.length) then some (l.set i.toNat a) else none
def lt:List UInt8→List UInt8→Bool
 |_,[]=>false
 |[],_::_=>true
 |a::x,b::y=>a<b||(a==b&&lt x y)
abbrev Str:=List UInt8
def mn (m n:Int):Int:=if n<m then n else m
def mx (m n:Int):Int:=if m<n then n else m
def indexByte:List UInt8→UInt8→Int
 |[],_=> -1
 |b::l,c=>if b==c then 0 else if indexByte l c== -1 then-1 else indexByte l c+1
def validRune (c:Nat):Bool:=c<0xD800||(0xE000≤c&&c≤0x10FFFF)
def dec (s:List UInt8)(i:Nat):Nat×Nat:=
 let at' (k:Nat):Nat:=(s.getD (i+k) 0).toNat
 let cont (k:Nat):Bool:=i+k<s.length&&at' k / 64==2
 let b0:=at' 0
 if b0<0x80 then (b0,1)
 else if b0 / 32==6&&cont 1 then
  let c:=(b0 % 32)*64+at' 1 % 64
  if c≥0x80 then (c,2) else (0xFFFD,1)
 else if b0 / 16==14&&cont 1&&cont 2 then
  let c:=(b0 % 16)*4096+(at' 1 % 64)*64+at' 2 % 64
  if c≥0x800&&validRune c then (c,3) else (0xFFFD,1)
 else if b0 / 8==30&&cont 1&&cont 2&&cont 3 then
  let c:=(b0 % 8)*262144+(at' 1 % 64)*4096+(at' 2 % 64)*64+at' 3 % 64
  if c≥0x10000&&validRune c then (c,4) else (0xFFFD,1)
 else (0xFFFD,1)
def u8 (n:Int):UInt8:=UInt8.ofNat (n % 256).toNat
def wr (signed:Bool)(bits:Nat)(n:Int):Int:=
 let m:=n % (2^bits:Int)
 if signed&&m≥(2^(bits-1):Int) then m-(2^bits:Int) else m
abbrev w64 (n:Int):Int:=wr true 64 n
abbrev w32 (n:Int):Int:=wr true 32 n
abbrev w16 (n:Int):Int:=wr true 16 n
abbrev w8 (n:Int):Int:=wr true 8 n
abbrev v64 (n:Int):Int:=wr false 64 n
abbrev v32 (n:Int):Int:=wr false 32 n
abbrev v16 (n:Int):Int:=wr false 16 n
abbrev v8 (n:Int):Int:=wr false 8 n
theorem qv {n:Int}(h: -9223372036854775808≤n∧n<9223372036854775808):w64 n=n:=by
 have e1:(2^64:Int)=18446744073709551616:=by decide
 have e2:(2^63:Int)=9223372036854775808:=by decide
 unfold w64 wr
 simp only [Bool.true_and,decide_eq_true_eq,ge_iff_le,show (64-1:Nat)=63 from rfl,e1,e2]
 split<;>omega
theorem w32_of {n:Int}(h: -2147483648≤n∧n<2147483648):w32 n=n:=by
 have e1:(2^32:Int)=4294967296:=by decide
 have e2:(2^31:Int)=2147483648:=by decide
 unfold w32 wr
 simp only [Bool.true_and,decide_eq_true_eq,ge_iff_le,show (32-1:Nat)=31 from rfl,e1,e2]
 split<;>omega
theorem at'_some {l:List α}{i:Int}{a:α}(h:at' l i=some a):0≤i∧i<l.length∧l[i.toNat]? =some a:=by
 unfold at' at h
 cases e:decide (0≤i) with
 |false=>rw [e] at h;cases h
 |true=>
  rw [e] at h
  have e:0≤i:=of_decide_eq_true e
  have h:l[i.toNat]? =some a:=h
  have:=(List.getElem?_eq_some_iff.1 h).1
  exact ⟨e,by omega,h⟩
theorem Q1 (l:List α)(i:Nat):at' l (i:Int)=l[i]? :=by simp [at']
theorem sub'_some {l m:List α}{i j:Int}(h:sub' l i j=some m):0≤i∧i≤j∧j≤l.length∧m=(l.drop i.toNat).take (j.toNat-i.toNat):=by
 unfold sub' at h
 cases e:decide (0≤i∧i≤j∧j≤l.length) with
 |false=>rw [e] at h;cases h
 |true=>rw [e] at h;cases h;have:=of_decide_eq_true e;exact ⟨this.1,this.2.1,this.2.2,rfl⟩
theorem app_some {sz:Nat}{l m r:List α}(h:app sz l m=some r):(l.length+m.length)*sz≤140737488355328∧r=l++m:=by
 unfold app at h
 cases e:decide ((l.length+m.length)*sz≤140737488355328) with
 |false=>rw [e] at h;cases h
 |true=>rw [e] at h;cases h;exact ⟨of_decide_eq_true e,rfl⟩
theorem Z3 {sz:Nat}{l m:List α}(h:(l.length+m.length)*sz≤140737488355328):app sz l m=some (l++m):=by simp [app,h]
theorem cat_some {l m r:List UInt8}(h:cat l m=some r):l.length+m.length≤9223372036854775807∧r=l++m:=by
 unfold cat at h
 cases e:decide (l.length+m.length≤9223372036854775807) with
 |false=>rw [e] at h;cases h
 |true=>rw [e] at h;cases h;exact ⟨of_decide_eq_true e,rfl⟩
theorem cat_of {l m:List UInt8}(h:l.length+m.length≤9223372036854775807):cat l m=some (l++m):=by simp [cat,h]
theorem put_some {l r:List α}{i:Int}{a:α}(h:put l i a=some r):0≤i∧i<l.length∧r=l.set i.toNat a:=by
 unfold put at h
 cases e:decide (0≤i∧i<l.length) with
 |false=>rw [e] at h;cases h
 |true=>rw [e] at h;cases h;have:=of_decide_eq_true e;exact ⟨this.1,this.2,rfl⟩
def sub3 (l:List α)(i j m:Int):Option (List α):=bif decide (j≤m∧m≤l.length) then sub' l i j else none
theorem sub3_some {l v:List α}{i j m:Int}(h:sub3 l i j m=some v):j≤m∧m≤l.length∧sub' l i j=some v:=by
 unfold sub3 at h
 cases e:decide (j≤m∧m≤l.length) with
 |false=>rw [e] at h;cases h
 |true=>rw [e] at h;have:=of_decide_eq_true e;exact ⟨this.1,this.2,h⟩
def shr (bits:Nat)(x y:Int):Option Int:=bif decide (0≤y) then some (x.fdiv (2^(min y.toNat bits))) else none
def shl (bits:Nat)(x y:Int):Option Int:=bif decide (0≤y) then some (x*2^(min y.toNat bits)) else none
def band (bits:Nat)(x y:Int):Int:=((BitVec.ofInt bits x) &&& (BitVec.ofInt bits y)).toNat
def bor (bits:Nat)(x y:Int):Int:=((BitVec.ofInt bits x) ||| (BitVec.ofInt bits y)).toNat
def bxor (bits:Nat)(x y:Int):Int:=((BitVec.ofInt bits x) ^^^ (BitVec.ofInt bits y)).toNat
def bandn (bits:Nat)(x y:Int):Int:=((BitVec.ofInt bits x) &&& ~~~(BitVec.ofInt bits y)).toNat
def rng (n i j:Int):Option Unit:=bif decide (0≤i∧i≤j∧j≤n) then some () else none
theorem rng_some {n i j:Int}{u:Unit}(h:rng n i j=some u):0≤i∧i≤j∧j≤n:=by
 unfold rng at h
 cases e:decide (0≤i∧i≤j∧j≤n) with
 |false=>rw [e] at h;cases h
 |true=>exact of_decide_eq_true e
def prt (l:List α)(o n:Nat):Option (List α):=bif decide (o+n≤l.length) then some ((l.drop o).take n) else none
theorem prt_some {l m:List α}{o n:Nat}(h:prt l o n=some m):o+n≤l.length∧m=(l.drop o).take n∧m.length=n:=by
 unfold prt at h
 cases e:decide (o+n≤l.length) with
 |false=>rw [e] at h;cases h
 |true=>
  rw [e] at h;cases h
  have e:=of_decide_eq_true e
  exact ⟨e,rfl,by simp;omega⟩
def eqn (n m:Nat):Option Unit:=bif Nat.beq n m then some () else none
theorem eqn_some {n m:Nat}{u:Unit}(h:eqn n m=some u):n=m:=by
 unfold eqn at h
 cases e:Nat.beq n m with
 |false=>rw [e] at h;cases h
 |true=>exact Nat.eq_of_beq_eq_true e
def mk (sz:Nat)(n:Int)(z:α):Option (List α):=bif decide (0≤n∧n*sz≤281474976710656∧n≤9223372036854775807) then some (List.replicate n.toNat z) else none
theorem mk_some {sz:Nat}{n:Int}{z:α}{m:List α}(h:mk sz n z=some m):0≤n∧n*sz≤281474976710656∧n≤9223372036854775807∧m=List.replicate n.toNat z:=by
 unfold mk at h
 cases e:decide (0≤n∧n*sz≤281474976710656∧n≤9223372036854775807) with
 |false=>rw [e] at h;cases h
 |true=>rw [e] at h;cases h;have:=of_decide_eq_true e;exact ⟨this.1,this.2.1,this.2.2,rfl⟩
end W
namespace Go.Abs
open Go
variable [GTab]
mutual
def nilN:AV→AV
 | .pl (.slice none 0 0)=> .vs 0 []
 | .pl (.pointer none)=> .optr true []
 | .pl (.map none)=> .vm [] []
 | .agg cs=> .agg (nilNL cs)
 | .tup cs=> .tup (nilNL cs)
 | .fn f cs ds=> .fn f (nilNL cs) (nilNL ds)
 |x=>x
def nilNL:List AV→List AV
 |[]=>[]
 |x::r=>nilN x::nilNL r
end
theorem Qh: ∀ l,(nilNL l).length=l.length
 |[]=>rfl
 |x::r=>by simp [nilNL,Qh r]
theorem J9: ∀ (l:List AV) (i:Nat) (y:AV),(nilNL l)[i]? =some y→ ∃ x,l[i]? =some x∧y=nilN x
 |[],i,y,h=>by simp [nilNL] at h
 |x::r,0,y,h=>by simp [nilNL] at h;exact ⟨x,rfl,h.symm⟩
 |x::r,i+1,y,h=>by
  simp only [nilNL,List.getElem?_cons_succ] at h
  simpa using J9 r i y h
theorem nilN_pl (v:Value):nilN (.pl v)= .pl v∨(v= .slice none 0 0∧nilN (.pl v)= .vs 0 [])∨(v= .pointer none∧nilN (.pl v)= .optr true [])∨(v= .map none∧nilN (.pl v)= .vm [] []):=by
 unfold nilN
 split
 ·rename_i h;cases h;exact .inr (.inl ⟨rfl,rfl⟩)
 ·rename_i h;cases h;exact .inr (.inr (.inl ⟨rfl,rfl⟩))
 ·rename_i h;cases h;exact .inr (.inr (.inr ⟨rfl,rfl⟩))
 all_goals (first|(rename_i h;cases h;done)|exact .inl rfl)
theorem CRel.nilN {O:Nat→Prop}{w:World}{x:AV}{v:Value}(h:CRel O w x v):CRel O w (Abs.nilN x) v:=by
 induction h with
 |pl v=>
  rcases nilN_pl v with e|⟨rfl,e⟩|⟨rfl,e⟩|⟨rfl,e⟩
  ·rw [e];exact .pl v
  ·rw [e];exact .vs0
  ·rw [e];exact .vnil
  ·rw [e];exact .vm0
 |agg hl _ ih=>exact .agg (by rw [Qh];exact hl) (fun i x v hx hv=>by obtain ⟨y,hy,rfl⟩:=J9 _ _ _ hx;exact ih i y v hy hv)
 |tup hl _ ih=>exact .tup (by rw [Qh];exact hl) (fun i x v hx hv=>by obtain ⟨y,hy,rfl⟩:=J9 _ _ _ hx;exact ih i y v hy hv)
 |fn hl _ hl2 _ ih ih2=>
  exact .fn (by rw [Qh];exact hl) (fun i x v hx hv=>by obtain ⟨y,hy,rfl⟩:=J9 _ _ _ hx;exact ih i y v hy hv)
   (by rw [Qh];exact hl2) (fun i x v hx hv=>by obtain ⟨y,hy,rfl⟩:=J9 _ _ _ hx;exact ih2 i y v hy hv)
 |ifc h _=>exact .ifc h
 |vptr f hc ho hb h _=>exact .vptr f hc ho hb h
 |vnil=>exact .vnil
 |vs0=>exact .vs0
 |vs hn f hc ho hb h _=>exact .vs hn f hc ho hb h
 |vm0=>exact .vm0
 |vm ms ck hh ho hb hlk hlx hbn hd hk hx _ _=>exact .vm ms ck hh ho hb hlk hlx hbn hd hk hx
theorem VRel.nilN {F:Nat→Prop}{β:Emb}{w:World}{x:AV}{v:Value}(h:VRel F β w x v):VRel F β w (Abs.nilN x) v:=by
 induction h with
 |c h=>exact .c h.nilN
 |agg hl _ ih=>exact .agg (by rw [Qh];exact hl) (fun i x v hx hv=>by obtain ⟨y,hy,rfl⟩:=J9 _ _ _ hx;exact ih i y v hy hv)
 |tup hl _ ih=>exact .tup (by rw [Qh];exact hl) (fun i x v hx hv=>by obtain ⟨y,hy,rfl⟩:=J9 _ _ _ hx;exact ih i y v hy hv)
 |fn hl _ hl2 _ ih ih2=>
  exact .fn (by rw [Qh];exact hl) (fun i x v hx hv=>by obtain ⟨y,hy,rfl⟩:=J9 _ _ _ hx;exact ih i y v hy hv)
   (by rw [Qh];exact hl2) (fun i x v hx hv=>by obtain ⟨y,hy,rfl⟩:=J9 _ _ _ hx;exact ih2 i y v hy hv)
 |ifc h _=>exact .ifc h
 |ptr hp hn=>exact .ptr hp hn
 |pnil=>exact .pnil
 |sl hp hn hc hl=>exact .sl hp hn hc hl
 |slz hp ha=>exact .slz hp ha
 |mp hp hn=>exact .mp hp hn
 |it hp hn=>exact .it hp hn
 |anyp=>exact .anyp
 |junk h=>exact .junk h
 |gone=>exact .gone
theorem nilN_le (x:AV):AV.Le x (nilN x):=fun F β w v h=>h.nilN
theorem LeA_nilN: ∀ l:List AV,LeA l (nilNL l)
 |[]=>trivial
 |x::r=>⟨nilN_le x,LeA_nilN r⟩
theorem XSpec.nilN {P:Program}{k:FuncId}{args args':List AV}{H:List (Nat×AObj)}{r:AV}{H':List (Nat×AObj)}{mv:List Nat}(h:XSpec P k args H r H' mv)(e:nilNL args'=args):XSpec P k args' H r H' mv:=by
 subst e;exact ASpec.le h (LeA_nilN _)
def NSpec (P:Program)(k:FuncId)(args:List AV)(r:AV):Prop:=
 ∀ F β w vs,Args F β w args vs→ ∃ v,VRel F β w r v∧ ∀ w',(callFunc k vs.toArray).run P w'= .ok (.value v) w'
theorem run_call_any {c:Ctx}{s:St}{β:Emb}{a:Act}{w:World}(hs:SatB c s β a w){cl:Call}{k:FuncId}{first cap es:List AV}(hk:calleeOf s.T cl.callee=some (k,first,cap))(ha:opvL s.T cl.args.toList=some es)(o:Oper)(ho:o.op= .call cl):
 ∃ vs:List Value,Args c.F β w (first++es++cap) vs∧ ∀ w' n w'',(callFunc k vs.toArray).run c.P w'= .ok n w''→(execOp a.eval o).run c.P w'= .ok n w'':=by
 obtain ⟨callee,cargs,argT⟩:=cl
 cases callee with
 |value f=>
  simp only [calleeOf] at hk
  split at hk
  ·rename_i k' fi ca hf
   cases hk
   obtain ⟨v1,v2,hv,h1,h2⟩:=(hs.op hf).fn_inv
   have hargs:=opvL_get hs ha
   have hA:Args c.F β w (first++es++cap) (v1.toList++cargs.toList.map a.eval++v2.toList):=by
    refine Args.append (Args.append ⟨by simp [h1.1],fun i x v hx hv=> ?_⟩ hargs) ⟨by simp [h2.1],fun i x v hx hv=> ?_⟩
    ·obtain ⟨u,hu,hr⟩:=h1.2 i x hx
     simp only [Array.getElem?_toList] at hv
     rw [hu] at hv;cases hv;exact hr
    ·obtain ⟨u,hu,hr⟩:=h2.2 i x hx
     simp only [Array.getElem?_toList] at hv
     rw [hu] at hv;cases hv;exact hr
   refine ⟨_,hA,fun w' n w'' hrun=> ?_⟩
   have hfull:v1++Array.map a.eval cargs++v2=(v1.toList++cargs.toList.map a.eval++v2.toList).toArray:=by
    simp
   simp only [execOp,ho,resolve,hv,Deferred.ofValue,Sem.run_bind,Sem.run_pure,Result.andThen_ok,invoke,hfull,hrun]
  ·cases hk
 |invoke _ _=>cases hk
 |builtin _=>cases hk
section
variable {c:Ctx} {s:St} {d:Option Tmp} {ty:TypeId} {pos:String} {af:Array Edge} {g:Option (Nat×Bool)}
theorem q_native {cl:Call}{k:FuncId}{first cap es:List AV}{r:AV}(hspec:NSpec c.P k (first++es++cap) r)(hk:calleeOf s.T cl.callee=some (k,first,cap))(ha:opvL s.T cl.args.toList=some es):QOp c ⟨d,.call cl,ty,pos,af,g⟩ s r:=by
 intro a w β hs
 obtain ⟨vs,hA,hrun⟩:=run_call_any (o:=⟨d,.call cl,ty,pos,af,g⟩) hs hk ha rfl;obtain ⟨v,hv,h⟩:=hspec _ _ _ _ hA;exact ⟨v,hv,fun w' _=>hrun _ _ _ (h w')⟩
end
theorem indexByte_eq: ∀ (l:List UInt8) (b:UInt8),Lib.indexByte l b=W.indexByte l b
 |[],_=>rfl
 |x::l,b=>by simp only [Lib.indexByte,W.indexByte,indexByte_eq l b]
theorem indexByte_spec {P:Program}{k:FuncId}{fn:Func}(hf:P.funcs[k]? =some fn)(l:List UInt8)(b:UInt8)(hname:(fn.name== "runtime.NumGoroutine")=false:=by kernel_rfl)(hb:fn.body.isNone=true:=by kernel_rfl)(hn:Extern.findNext fn=none:=by kernel_rfl)
 (hE:Extern.find fn=some Extern.BytealgIndexByte.indexByte:=by kernel_rfl):NSpec P k [.pl (.string ⟨l.toArray⟩),.pl (.int .u8 (b.toNat:Int))] (.pl (.int .i64 (W.indexByte l b))):=by
 intro F β w vs hA
 obtain ⟨hl,h⟩:=hA
 match vs,hl,h with
 |[v1,v2],_,h=>
  obtain rfl:=(h 0 _ _ rfl rfl).pl_eq;obtain rfl:=(h 1 _ _ rfl rfl).pl_eq;refine ⟨_,.c (.pl _),fun w'=> ?_⟩
  have hrun:=Lib.run_indexByteString (P:=P) ⟨l.toArray⟩ (b.toNat:Int) w'
  rw [run_callFunc_extern hf hname hb hn hE,hrun]
  simp [Result.andThen,indexByte_eq]
theorem But.setObj (w:World)(r:Nat)(o:Obj):But w {w with heap:=w.heap.setIfInBounds r o} (· =r):=
 ⟨rfl,⟨rfl,Nat.le_refl _⟩,rfl,by simp,fun k hk hne=>by simp [Ne.symm hne]⟩
theorem dec_eq (l:List UInt8)(i:Nat):Utf8.decode ⟨l.toArray⟩ i=W.dec l i:=by
 have e1: ∀ k,(ByteArray.mk l.toArray).get! k=l.getD k 0:=fun k=>by
  show l.toArray[k]! =_
  simp [List.getD_eq_getElem?_getD]
  rfl
 have e2:(ByteArray.mk l.toArray).size=l.length:=rfl
 have e3: ∀ n:Nat,Utf8.valid (n:Int)=W.validRune n:=fun n=>by
  unfold Utf8.valid W.validRune
  rw [Bool.eq_iff_iff]
  simp only [Bool.or_eq_true,Bool.and_eq_true,decide_eq_true_eq]
  omega
 have e4:Utf8.runeError=65533:=rfl
 simp only [Utf8.decode,W.dec,e1,e2,e3,e4]
section
variable {c:Ctx} {s:St} {d:Option Tmp} {ty:TypeId} {pos:String} {af:Array Edge} {g:Option (Nat×Bool)}
theorem run_getObj_at {P:Program}{w:World}{r:Nat}{sb:ByteArray}{p:Nat}(h:w.heap[r]? =some (.stringIter sb p)):(getObj r).run P w= .ok (.stringIter sb p) w:=by simp only [getObj,Sem.run,h]
theorem run_setObj_at {P:Program}{w:World}{r:Nat}{sb:ByteArray}{p:Nat}{o:Obj}(h:w.heap[r]? =some (.stringIter sb p)):(setObj r o).run P w= .ok () {w with heap:=w.heap.setIfInBounds r o}:=by simp only [setObj,Sem.run,h]
theorem VRel.it_inv {F:Nat→Prop}{β:Emb}{w:World}{v:Value}{b:Nat}(h:VRel F β w (.it b) v): ∃ p,β b=some p∧p.nil=false∧v= .pointer (some ⟨p.blk,0,none⟩):=by
 cases h with
 |it hp hn=>exact ⟨_,hp,hn,rfl⟩
 |c h=>cases h
theorem e_range {t:TypeId}{x:Operand}{sb:ByteArray}{ti:TI}(ht:tget c.U t=some ti)(htd:ti.desc= .string)(hx:opv s.T x=some (.pl (.string sb)))(hb:hget s.H (nm d)=none)(hd:dstOk c.N d=true):
 EOpB c ⟨d,.range t x,ty,pos,af,g⟩ s ⟨putT s.T d (.it (nm d)),(nm d,.siter sb 0)::s.H,s.M⟩:=by
 intro a w β hs
 let p:Place:=⟨w.heap.size,0,0,0,false⟩
 have hs':=hs.newobj (w':=w.alloc (.stringIter sb 0)) hb p (.inr trivial) (fun _=>⟨Nat.le_refl _,by simp [p]⟩) (But.alloc _ _) (o:= .siter sb 0) ⟨rfl,qJ w _⟩
 have hu:c.P.underlying t=some .string:=(zx ht).trans (congrArg some htd)
 refine ⟨_,_,Zv _ _,.pointer (some ⟨w.heap.size,0,none⟩),?_,hs'.put hd (.it (p:=p) (by simp [upd]) rfl)⟩
 simp [execOp,hs.pl hx,Instr.range,run_underlying hu]
theorem e_next {x:Operand}{b pos':Nat}{sb:ByteArray}(hx:opv s.T x=some (.it b))(hb:hget s.H b=some (.siter sb pos'))(hlt:pos'<sb.size)(hd:dstOk c.N d=true):
 EOp c ⟨d,.next x true,ty,pos,af,g⟩ s ⟨putT s.T d (.tup [.pl (.bool true),.pl (.int .i64 (pos':Int)),.pl (.int .i32 ((Utf8.decode sb pos').1:Int))]),hset s.H b (.siter sb (pos'+(Utf8.decode sb pos').2)),s.M⟩:=by
 intro a w β hs
 obtain ⟨p,hp,hn,hv⟩:=(hs.op hx).it_inv;obtain ⟨p',hp',hr⟩:=hs.heap.obj b _ hb
 rw [hp] at hp';cases hp'
 have hheap:=hr.2
 have hlt':p.blk<w.heap.size:=(Array.getElem?_eq_some_iff.1 hheap).1
 have hs':=hs.setobj hp hn (But.setObj w p.blk (.stringIter sb (pos'+(Utf8.decode sb pos').2))) (o:= .siter sb (pos'+(Utf8.decode sb pos').2)) ⟨hn,by simp [hlt']⟩
 refine ⟨_,β,.inl ⟨.tuple #[.bool true,.int .i64 (pos':Int),.int .i32 ((Utf8.decode sb pos').1:Int)],?_,hs'.put hd (.c (.tup rfl fun i y u hy hu=> ?_))⟩⟩
 ·simp [execOp,hv,Instr.next,run_getObj_at hheap,run_setObj_at hheap,hlt,goInt,Result.andThen]
 ·match i,hy,hu with
  |0,hy,hu=>simp at hy hu;subst hy hu;exact .pl _
  |1,hy,hu=>simp at hy hu;subst hy hu;exact .pl _
  |2,hy,hu=>simp at hy hu;subst hy hu;exact .pl _
  |i+3,hy,hu=>simp at hy
theorem e_next_end {x:Operand}{b pos':Nat}{sb:ByteArray}(hx:opv s.T x=some (.it b))(hb:hget s.H b=some (.siter sb pos'))(hlt: ¬ pos'<sb.size)(hd:dstOk c.N d=true):
 EOp c ⟨d,.next x true,ty,pos,af,g⟩ s ⟨putT s.T d (.tup [.pl (.bool false)]),s.H,s.M⟩:=by
 intro a w β hs
 obtain ⟨p,hp,hn,hv⟩:=(hs.op hx).it_inv;obtain ⟨p',hp',hr⟩:=hs.heap.obj b _ hb
 rw [hp] at hp';cases hp'
 have hheap:=hr.2
 refine ⟨w,β,.inl ⟨.tuple #[.bool false],?_,hs.put hd (.c (.tup rfl fun i y u hy hu=> ?_))⟩⟩
 ·simp [execOp,hv,Instr.next,run_getObj_at hheap,hlt,Result.andThen]
 ·match i,hy,hu with
  |0,hy,hu=>simp at hy hu;subst hy hu;exact .pl _
  |i+1,hy,hu=>simp at hy
theorem q_min2 {x y:Operand}{argTs:Array TypeId}{k:IntKind}{m n:Int}(hx:opv s.T x=some (.pl (.int k m)))(hy:opv s.T y=some (.pl (.int k n))):QOp c ⟨d,.call {callee:= .builtin .min,args:= #[x,y],argTypes:=argTs},ty,pos,af,g⟩ s (.pl (.int k (W.mn m n))):=
 q_builtin (xs:=[x,y]) fun a w β hs=>⟨_,.c (.pl _),fun w' _=>by simp [builtin,Builtin.min_,Builtin.min2,hs.pl hx,hs.pl hy,W.mn]⟩
theorem q_max2 {x y:Operand}{argTs:Array TypeId}{k:IntKind}{m n:Int}(hx:opv s.T x=some (.pl (.int k m)))(hy:opv s.T y=some (.pl (.int k n))):QOp c ⟨d,.call {callee:= .builtin .max,args:= #[x,y],argTypes:=argTs},ty,pos,af,g⟩ s (.pl (.int k (W.mx m n))):=
 q_builtin (xs:=[x,y]) fun a w β hs=>⟨_,.c (.pl _),fun w' _=>by simp [builtin,Builtin.max_,Builtin.max2,hs.pl hx,hs.pl hy,W.mx]⟩
theorem q_quo {t t':TypeId}{x y:Operand}{k:IntKind}{m n:Int}(hx:opv s.T x=some (.pl (.int k m)))(hy:opv s.T y=some (.pl (.int k n)))(hn:(n==0)=false):QOp c ⟨d,.binOp .quo t x y t',ty,pos,af,g⟩ s (.pl (.int k (k.wrap (m.tdiv n)))):=
 q_int hx hy fun w'=>by simp at hn;simp [binOp,Op.intDiv,hn]
theorem q_rem {t t':TypeId}{x y:Operand}{k:IntKind}{m n:Int}(hx:opv s.T x=some (.pl (.int k m)))(hy:opv s.T y=some (.pl (.int k n)))(hn:(n==0)=false):QOp c ⟨d,.binOp .rem t x y t',ty,pos,af,g⟩ s (.pl (.int k (m.tmod n))):=
 q_int hx hy fun w'=>by simp at hn;simp [binOp,Op.intDiv,hn]
theorem grownCap_ge (w:World)(n:Nat)(e:TypeId):n≤grownCap w n 0 e:=by
 unfold grownCap
 show n≤n+_
 omega
theorem e_strb {src dst e:TypeId}{x:Operand}{l:List UInt8}{t1 t2 ei:TI}(h1:tget c.U src=some t1)(hd1:t1.desc= .string)(h2:tget c.U dst=some t2)(hd2:t2.desc= .slice e)(he:tget c.U e=some ei)(hek:ei.desc= .int .u8)(hx:opv s.T x=some (.pl (.string ⟨l.toArray⟩)))
 (hb:hget s.H (nm d)=none) (hd:dstOk c.N d=true) (hview:GTab.view e=true):EOpB c ⟨d,.convert src dst x,ty,pos,af,g⟩ s ⟨putT s.T d (.sl (nm d) 0 l.length),(nm d,.row e 1 0 (encB l))::s.H,s.M⟩:=by
 intro a w β hs
 have hu1:c.P.underlying src=some .string:=(zx h1).trans (congrArg some hd1)
 have hu2:c.P.underlying dst=some (.slice e):=(zx h2).trans (congrArg some hd2)
 have hu3:c.P.underlying e=some (.int .u8):=(zx he).trans (congrArg some hek)
 have hrun:=run_bytes_of_string (P:=c.P) w src dst e ⟨l.toArray⟩ hu1 hu2 hu3
 have hge:=grownCap_ge w (ByteArray.mk l.toArray).size e
 have hsz:(ByteArray.mk l.toArray).size=l.length:=rfl
 generalize grownCap w (ByteArray.mk l.toArray).size 0 e=cap at hrun hge
 rw [hsz] at hge
 have hbl':BelowD w w.drew:=⟨⟨rfl,rfl,rfl,Nat.le_refl _,fun _ _=>rfl⟩,Nat.le_succ _⟩
 have hbl:RowKit.Below w.heap.size w w.drew:=hbl'.1
 have hs1:=hs.later hbl'
 have hcs:(bytesRow ⟨l.toArray⟩ cap).size=cap:=by
  unfold bytesRow
  rw [Array.size_append,Array.size_map,Array.size_replicate,hsz]
  show l.length+_=_
  omega
 let p:Place:=⟨w.heap.size,0,cap,1,false⟩
 have hro:ORel c.F (upd β (nm d) p) (w.drew.alloc (.cells (bytesRow ⟨l.toArray⟩ cap) e ((bytesRow ⟨l.toArray⟩ cap).size,(bytesRow ⟨l.toArray⟩ cap).size+1))) p (.row e 1 0 (encB l)):=by
  refine ⟨rfl,(fun h=>by cases h),fun _=>⟨_,_,⟨qJ _ _,fun hv=>by rw [hview] at hv;cases hv⟩,hcs.symm,by rw [encB_length,hcs];show 0+l.length≤cap;omega,fun i y hy=> ?_,fun o ho h1 h2=>absurd ho (Nat.not_lt.2 h1)⟩⟩
  simp only [encB,List.getElem?_map,Option.map_eq_some_iff] at hy
  obtain ⟨b,hb',rfl⟩:=hy;refine ⟨_,?_,.pl _,rfl⟩
  have hi:=(List.getElem?_eq_some_iff.1 hb').1
  unfold bytesRow
  rw [Array.getElem?_append_left (by simpa [p] using hi)]
  simp [p,hb']
 have hs2:=hs1.newobj (w':=w.drew.alloc _) hb p (.inl rfl) (fun _=>⟨Nat.le_refl _,(by show w.heap.size<(w.drew.heap.push _).size;rw [Array.size_push];exact Nat.lt_succ_self _)⟩) (But.alloc _ _) hro
 refine ⟨_,_,?_,.slice (some ⟨w.heap.size,0,none⟩) l.length cap,?_,hs2.put hd (.sl (p:=p) (ZD _ _ _) rfl hge (by show 0+0+cap*1≤cap;omega))⟩
 ·exact hbl.trans (Zv w.drew _)
 ·simp only [execOp,hs.pl hx,Sem.run_bind,hrun,Result.andThen_ok,Sem.run_pure]
  rfl
end
end Go.Abs
set_option linter.unusedSimpArgs false
namespace Go.Abs
open Go
variable [GTab]
section
variable {c:Ctx} {s:St} {d:Option Tmp} {ty:TypeId} {pos:String} {af:Array Edge} {g:Option (Nat×Bool)}
theorem run_eqptr {P:Program}{t e:TypeId}(ht:P.underlying t=some (.pointer e))(w:World)(A:Option Addr):(Op.equal t (.pointer A) (.pointer none)).run P w= .ok A.isNone w:=by
 show (Op.equalIn (9999+1) t (.pointer A) (.pointer none)).run P w=_
 generalize 9999=d
 cases A<;>simp [Op.equalIn,run_underlying ht]
theorem q_ptrnil {op:BinOp}{t t':TypeId}{x:Operand}{ax:AV}{z r:Bool}{ti:TI}{e:TypeId}(ht:tget c.U t=some ti)(htd:ti.desc= .pointer e)(hx:opv s.T x=some ax)(hz:(∃ cs,ax= .optr z cs)∨(∃ b o,ax= .nptr z b o)∨(ax= .pl (.pointer none)∧z=true))
 (hop:(op= .eql∧r=z)∨(op= .neq∧r= !z)):QOp c ⟨d,.binOp op t x (.const (.pointer none)) t',ty,pos,af,g⟩ s (.pl (.bool r)):=by
 intro a w β hs
 have hv:=hs.op hx
 have key: ∃ A,a.eval x= .pointer A∧A.isNone=z:=by
  generalize hev:a.eval x=v at hv
  rcases hz with ⟨cs,rfl⟩|⟨b,o,rfl⟩|⟨rfl,rfl⟩
  rotate_right
  ·exact ⟨none,hv.pl_eq,rfl⟩
  ·cases hv with
   |c h=>cases h with
    |vptr _ _ _ _ _=>exact ⟨_,rfl,rfl⟩
    |vnil=>exact ⟨_,rfl,rfl⟩
  ·cases hv with
   |c h=>cases h
   |ptr _ _=>exact ⟨_,rfl,rfl⟩
   |pnil=>exact ⟨_,rfl,rfl⟩
 obtain ⟨A,he,hA⟩:=key
 have hu:c.P.underlying t=some (.pointer e):=(zx ht).trans (congrArg some htd)
 refine ⟨_,.c (.pl _),fun w' _=> ?_⟩
 have h2:a.eval (.const (.pointer none))= .pointer none:=rfl
 have h3:eqGuard op t x (.const (.pointer none)) (.pointer A) (.pointer none)=pure ():=by cases op<;>rfl
 rcases hop with ⟨rfl,rfl⟩|⟨rfl,rfl⟩
 ·have h4:binOp .eql t (.pointer A) (.pointer none)=(do pure (.bool (←Op.equal t (.pointer A) (.pointer none)))):=rfl
  simp [execOp,he,h2,h3,h4,run_eqptr hu,hA]
 ·have h4:binOp .neq t (.pointer A) (.pointer none)=(do pure (.bool (!(←Op.equal t (.pointer A) (.pointer none))))):=rfl
  simp [execOp,he,h2,h3,h4,run_eqptr hu,hA]
inductive FV where
 |i (k:IntKind) (m n:Int)
 |s (l m:List UInt8)
 |b (p q:Bool)
def FV.x:FV→AV
 | .i k m _=> .pl (.int k m)
 | .s l _=> .pl (.string ⟨l.toArray⟩)
 | .b p _=> .pl (.bool p)
def FV.y:FV→AV
 | .i k _ n=> .pl (.int k n)
 | .s _ m=> .pl (.string ⟨m.toArray⟩)
 | .b _ q=> .pl (.bool q)
def FV.r:FV→Bool
 | .i _ m n=>m==n
 | .s l m=>l==m
 | .b p q=>p==q
def FV.desc:FV→TypeDesc→Bool
 | .i k _ _,.int k'=>k'==k
 | .s _ _,.string=>true
 | .b _ _,.bool=>true
 |_,_=>false
def FV.all:List FV→Bool
 |[]=>true
 |[f]=>f.r
 |f::l=>f.r&&FV.all l
theorem FV.all_cons (f:FV)(l:List FV):FV.all (f::l)=(f.r&&FV.all l):=by
 cases l with
 |nil=>simp [FV.all]
 |cons g r=>rfl
theorem q_shr {t t':TypeId}{x y:Operand}{k k':IntKind}{m n r:Int}(hx:opv s.T x=some (.pl (.int k m)))(hy:opv s.T y=some (.pl (.int k' n)))(hr:W.shr k.bits m n=some r):QOp c ⟨d,.binOp .shr t x y t',ty,pos,af,g⟩ s (.pl (.int k r)):=
 q_bin hx hy rfl fun w'=>by
  unfold W.shr at hr
  cases e:decide (0≤n) with
  |false=>rw [e] at hr;cases hr
  |true=>
   rw [e] at hr;cases hr
   have e:=of_decide_eq_true e
   simp [binOp,Op.shift,show ¬ n<0 by omega]
theorem q_shl {t t':TypeId}{x y:Operand}{k k':IntKind}{m n r:Int}(hx:opv s.T x=some (.pl (.int k m)))(hy:opv s.T y=some (.pl (.int k' n)))(hr:W.shl k.bits m n=some r):QOp c ⟨d,.binOp .shl t x y t',ty,pos,af,g⟩ s (.pl (.int k (k.wrap r))):=
 q_bin hx hy rfl fun w'=>by
  unfold W.shl at hr
  cases e:decide (0≤n) with
  |false=>rw [e] at hr;cases hr
  |true=>
   rw [e] at hr;cases hr
   have e:=of_decide_eq_true e
   simp [binOp,Op.shift,show ¬ n<0 by omega]
def bitsOf:BinOp→Nat→Int→Int→Option Int
 | .and,b,m,n=>some (W.band b m n)
 | .or,b,m,n=>some (W.bor b m n)
 | .xor,b,m,n=>some (W.bxor b m n)
 | .andNot,b,m,n=>some (W.bandn b m n)
 |_,_,_,_=>none
theorem q_bits {op:BinOp}{t t':TypeId}{x y:Operand}{k:IntKind}{m n r:Int}(hx:opv s.T x=some (.pl (.int k m)))(hy:opv s.T y=some (.pl (.int k n)))(hr:bitsOf op k.bits m n=some r):QOp c ⟨d,.binOp op t x y t',ty,pos,af,g⟩ s (.pl (.int k (k.wrap r))):=
 q_int hx hy fun w'=>by
  cases op<;>simp only [bitsOf] at hr<;>first|(cases hr;done)|skip
  all_goals
   cases hr
   simp [binOp,Op.intBits,W.band,W.bor,W.bxor,W.bandn]
theorem q_capn {t:TypeId}{x:Operand}{ti:TI}{et:TypeId}(ht:tget c.U t=some ti)(htd:ti.desc= .slice et)(hx:opv s.T x=some (.pl (.slice none 0 0))):QOp c ⟨d,.call {callee:= .builtin .cap,args:= #[x],argTypes:= #[t]},ty,pos,af,g⟩ s (.pl (.int .i64 0)):=by
 intro a w β hs
 have hu:c.P.underlying t=some (.slice et):=(zx ht).trans (congrArg some htd)
 refine ⟨_,.c (.pl _),fun w' _=> ?_⟩
 simp [execOp,resolve,invoke,builtin,Builtin.cap_,hs.pl hx,run_underlying hu,goInt]
end
end Go.Abs
set_option linter.unusedSimpArgs false
namespace Go.Abs
open Go
variable [GTab]
theorem Sat.shrink {te:TypeId}{c:Ctx}{T:List (Nat×AV)}{H:List (Nat×AObj)}{M:List Nat}{a:Act}{w:World}(h:Sat c ⟨T,H,M⟩ a w){b k fz m:Nat}{cs ds:List AV}(hb:hget H b=some (.row te k fz cs))(hds:cs.take m=ds):Sat c ⟨T,hset H b (.row te k fz ds),M⟩ a w:=by
 obtain ⟨β,hs⟩:=h;obtain ⟨p,hp,hk,hnil,hr⟩:=hs.heap.obj b _ hb
 subst hds
 have ho:ORel c.F β w p (.row te k fz (cs.take m)):=by
  refine ⟨hk,fun hn=>by rw [hnil hn];simp,fun hn=> ?_⟩;obtain ⟨cv,fr,hcv,hlim,h5,h6,h7⟩:=hr hn;refine ⟨cv,fr,hcv,hlim,by simp;omega,fun i z hz=> ?_,h7⟩
  have hi:=(List.getElem?_eq_some_iff.1 hz).1
  simp at hi
  rw [List.getElem?_take_of_lt (by omega)] at hz
  exact h6 i z hz
 refine ⟨β,hs.defers,hs.size,⟨fun i ob hg=> ?_,fun i q hq=> ?_,hs.heap.inj,hs.heap.fresh,hs.heap.apart,hs.heap.glob⟩,hs.slot,hs.keeps,hs.stay⟩
 ·rw [hget_hset] at hg
  by_cases e:b=i
  ·rw [if_pos e] at hg;cases hg;subst e;exact ⟨p,hp,ho⟩
  ·rw [if_neg e] at hg;exact hs.heap.obj i ob hg
 ·rw [hget_hset]
  by_cases e:b=i
  ·rw [if_pos e];exact ⟨_,rfl⟩
  ·rw [if_neg e];exact hs.heap.dom i q hq
theorem Sat.weakbox {tb:TypeId}{c:Ctx}{T:List (Nat×AV)}{H:List (Nat×AObj)}{M:List Nat}{a:Act}{w:World}(h:Sat c ⟨T,H,M⟩ a w){b:Nat}{cs ds:List AV}(hb:hget H b=some (.box tb cs))(hl:ds.length=cs.length)(hle: ∀ (i:Nat) (x y:AV),cs[i]? =some x→ds[i]? =some y→AV.Le x y):Sat c ⟨T,hset H b (.box tb ds),M⟩ a w:=by
 obtain ⟨β,hs⟩:=h;obtain ⟨p,hp,hn,hr⟩:=hs.heap.obj b _ hb
 have ho:ORel c.F β w p (.box tb ds):=by
  obtain ⟨cv,fr,hcv,h5,h6,h7⟩:=hr;refine ⟨hn,cv,fr,hcv,by rw [hl];exact h5,fun i z hz=> ?_,h7⟩
  have hi:=(List.getElem?_eq_some_iff.1 hz).1
  have hx:cs[i]? =some cs[i]:=by simp [hl ▸ hi]
  obtain ⟨v,hv,hr,h1⟩:=h6 i _ hx;exact ⟨v,hv,hle i _ _ hx hz _ _ _ _ hr,h1⟩
 refine ⟨β,hs.defers,hs.size,⟨fun i ob hg=> ?_,fun i q hq=> ?_,hs.heap.inj,hs.heap.fresh,hs.heap.apart,hs.heap.glob⟩,hs.slot,hs.keeps,hs.stay⟩
 ·rw [hget_hset] at hg
  by_cases e:b=i
  ·rw [if_pos e] at hg;cases hg;subst e;exact ⟨p,hp,ho⟩
  ·rw [if_neg e] at hg;exact hs.heap.obj i ob hg
 ·rw [hget_hset]
  by_cases e:b=i
  ·rw [if_pos e];exact ⟨_,rfl⟩
  ·rw [if_neg e];exact hs.heap.dom i q hq
theorem SatB.newrow2 {c:Ctx}{s:St}{β:Emb}{a:Act}{w w1:World}(hs:SatB c s β a w)(hb1:BelowD w w1){b:Nat}(hb:hget s.H b=none)(cells:Array Value)(e:TypeId){k n cap:Nat}{cs:List AV}(hl:cs.length≤cells.size)(hcap:n≤cap)(hsz:cells.size=cap*k)
 (h: ∀ (i:Nat) (y:AV),cs[i]? =some y→ ∃ u,cells[i]? =some u∧CRel (off c.F β) w y u∧u.oneCell'=true):
 ∃ β',SatB c ⟨s.T,(b,.row e k 0 cs)::s.H,s.M⟩ β' a (w1.alloc (.cells cells e (0,0)))∧VRel c.F β' (w1.alloc (.cells cells e (0,0))) (.sl b 0 n) (.slice (some ⟨w1.heap.size,0,none⟩) n cap):=by
 have hs:=hs.later hb1
 let p:Place:=⟨w1.heap.size,0,cells.size,k,false⟩
 have hO: ∀ k,off c.F (upd β b p) k→off c.F β k∨w1.heap.size≤k:=by
  rintro k (hk|⟨i,q,hq,hqn,rfl⟩)
  ·exact .inl (.inl hk)
  ·rcases Qu hq with ⟨rfl,rfl⟩|⟨_,hq⟩
   ·exact .inr (Nat.le_refl _)
   ·exact .inl (.inr ⟨i,q,hq,hqn,rfl⟩)
 refine ⟨upd β b p,hs.newobj hb p (.inl rfl) (fun _=>⟨Nat.le_refl _,by simp [p]⟩) (But.alloc _ _) ?_,?_⟩
 ·refine ⟨rfl,(fun h=>by cases h),fun _=>⟨cells,(0,0),⟨qJ _ _,fun _=>Nat.zero_le _⟩,rfl,by simp [p];omega,fun i y hy=> ?_,fun o ho h1 h2=>by simp at h2⟩⟩;obtain ⟨u,hu,hr,h1⟩:=h i y hy;refine ⟨u,by simp [p,hu],?_,h1⟩
  have hr1:CRel (off c.F β) w1 y u:=hr.mono hb1.1.size (fun k hk=> .inl hk) (fun k hk _=>hb1.1.block k hk)
  exact hr1.mono (by simp) hO (fun k hk _=>RowKit.Below.heap_alloc _ _ _ hk)
 ·exact .sl (p:=p) (ZD _ _ _) rfl hcap (by show 0+0+cap*k≤cells.size;omega)
theorem made_get {z:Array Value}{n:Nat}{i:Nat}(hi:i<n)(hz:0<z.size): ∃ u,z[i % z.size]? =some u∧(madeCells z n)[i]? =some u:=by
 have h:=Nat.mod_lt i hz
 refine ⟨z[i % z.size]'h,by simp [h],?_⟩;unfold madeCells
 simp [hi,h]
theorem flat_rep {α:Type}(x:List α): ∀ (n i:Nat),i<n*x.length→((List.replicate n x).flatMap id)[i]? =x[i % x.length]?
 |0,i,h=>by omega
 |n+1,i,h=>by
  rw [List.replicate_succ,List.flatMap_cons]
  by_cases hi:i<x.length
  ·rw [show id x=x from rfl,List.getElem?_append_left hi,Nat.mod_eq_of_lt hi]
  ·rw [show id x=x from rfl,List.getElem?_append_right (by omega)]
   have hle:x.length≤i:=by omega
   rw [flat_rep x n (i-x.length) (by rw [Nat.add_mul,Nat.one_mul] at h;omega)]
   congr 1
   conv=>rhs;rw [←Nat.sub_add_cancel hle]
   rw [Nat.add_mod_right]
section
variable {c:Ctx} {s:St} {d:Option Tmp} {ty:TypeId} {pos:String} {af:Array Edge} {g:Option (Nat×Bool)}
theorem zeros_rel {F:Nat→Prop}{β:Emb}{w:World}{z:Value}{zs:List AV}{k n:Nat}(hcs:cellsA (ofVal z)=zs)(hf:fit (ofVal z)=true)(hcl:AV.closedL zs=true)(hk:zs.length=k)(i:Nat)(y:AV)(hy:((List.replicate n zs).flatMap id)[i]? =some y):
 ∃ u,z.cells[i % k]? =some u∧CRel (off F β) w y u∧u.oneCell'=true:=by
 subst hk
 have hlen:((List.replicate n zs).flatMap id).length=n*zs.length:=by
  clear hy
  induction n with
  |zero=>simp
  |succ n ih=>rw [List.replicate_succ,List.flatMap_cons,List.length_append,ih,Nat.add_mul,Nat.one_mul,Nat.add_comm];rfl
 have hi:=(List.getElem?_eq_some_iff.1 hy).1
 rw [hlen] at hi
 rw [flat_rep zs n i hi] at hy
 have hz:VRel F β w (ofVal z) z:= .c (CRel.ofVal _ _ _)
 obtain ⟨hl,h⟩:=hz.cells hf
 rw [hcs] at hl h
 obtain ⟨u,hu,hr,h1⟩:=h _ y hy;exact ⟨u,hu,hr.closed (AV.closedL_get hcl hy),h1⟩
theorem e_makeSlice {t:TypeId}{x y:Operand}{kx ky:IntKind}{l m:Int}{zs:List AV}{ti ei:TI}{e k:Nat}(ht:tget c.U t=some ti)(htd:ti.desc= .slice e)(he:tget c.U e=some ei)(hk:ei.size=k)(hk0:0<k)(hx:opv s.T x=some (.pl (.int kx l)))(hy:opv s.T y=some (.pl (.int ky m)))
 (hcs:cellsA (ofVal ei.zero)=zs) (hf:fit (ofVal ei.zero)=true) (hcl:AV.closedL zs=true) (hzl:zs.length=k) (h0:0≤l) (hlm:l≤m) (hby:m*ei.bytes≤281474976710656) (h63:m≤9223372036854775807) (hb:hget s.H (nm d)=none) (hd:dstOk c.N d=true):
 EOpB c ⟨d,.makeSlice t x y,ty,pos,af,g⟩ s ⟨putT s.T d (.sl (nm d) 0 l.toNat),(nm d,.row e k 0 ((List.replicate l.toNat zs).flatMap id))::s.H,s.M⟩:=by
 intro a w β hs
 have hu:c.P.underlying t=some (.slice e):=(zx ht).trans (congrArg some htd)
 obtain ⟨i,hi,hi1,hi2,hi3⟩:=ty_info he
 have hzsz:ei.zero.cells.size=k:=by
  have hz:VRel c.F β w (ofVal ei.zero) ei.zero:= .c (CRel.ofVal _ _ _)
  have:=(hz.cells hf).1
  rw [hcs,hzl] at this;exact this.symm
 have hrun:=run_make (P:=c.P) w t e i ei.zero hu hi hi3 kx ky l m h0 hlm (by rw [hi2,Int.mul_comm];exact hby) h63
 obtain ⟨β',hs',hr⟩:=hs.newrow2 (BelowD.refl _) hb (madeCells ei.zero.cells (m.toNat*i.size)) e (k:=k) (n:=l.toNat) (cap:=m.toNat) (cs:=(List.replicate l.toNat zs).flatMap id)
  (by
   rw [size_madeCells,hi1,hk]
   have:((List.replicate l.toNat zs).flatMap id).length=l.toNat*k:=by
    generalize l.toNat=q
    induction q with
    |zero=>simp
    |succ n ih=>rw [List.replicate_succ,List.flatMap_cons,List.length_append,ih,Nat.add_mul,Nat.one_mul,Nat.add_comm,←hzl];rfl
   rw [this]
   exact Nat.mul_le_mul_right _ (by omega)) (by omega) (by rw [size_madeCells,hi1,hk]) (fun j y hy=>by
  obtain ⟨u,hu1,hr,h1⟩:=zeros_rel (F:=c.F) (β:=β) (w:=w) hcs hf hcl hzl j y hy
  have hj:j<m.toNat*i.size:=by
   have:=(List.getElem?_eq_some_iff.1 hy).1
   have h2:((List.replicate l.toNat zs).flatMap id).length=l.toNat*k:=by
    generalize l.toNat=q
    induction q with
    |zero=>simp
    |succ n ih=>rw [List.replicate_succ,List.flatMap_cons,List.length_append,ih,Nat.add_mul,Nat.one_mul,Nat.add_comm,←hzl];rfl
   rw [h2] at this
   rw [hi1,hk]
   exact Nat.lt_of_lt_of_le this (Nat.mul_le_mul_right _ (by omega))
  obtain ⟨u',hu',hm⟩:=made_get (z:=ei.zero.cells) hj (by rw [hzsz];exact hk0)
  rw [hzsz,hu1] at hu';cases hu'
  exact ⟨u,hm,hr,h1⟩)
 refine ⟨_,β',Zv _ _,_,?_,hs'.put hd hr⟩
 simp [execOp,hs.pl hx,hs.pl hy,hrun]
end
end Go.Abs
set_option linter.unusedSimpArgs false
namespace Go.Abs
open Go Go.RowKit Go.Proofs W
variable [GTab]
theorem GOk.at {O:Nat→Prop}{w:World}(h:GOk O w){j g:Nat}{cs:List Value}(hj:GTab.tab[j]? =some (g,cs)):(∃ t fr,w.heap[g]? =some (.cells cs.toArray t fr))∧ ¬ O g∧g<w.heap.size∧ ∀ v∈cs,v.oneCell'=true:=
 have hm:=List.mem_of_getElem? hj
 ⟨h.cell g cs hm,(h.out g cs hm).1,(h.out g cs hm).2,h.one g cs hm⟩
section
variable {c:Ctx} {s:St} {d:Option Tmp} {ty:TypeId} {pos:String} {af:Array Edge} {g:Option (Nat×Bool)}
theorem s_indexGlob {t:TypeId}{x y:Operand}{j b n k:Nat}{vs:List Value}{kx:IntKind}{i:Int}{ds:List AV}{ti ei:TI}{e:TypeId}(ht:tget c.U t=some ti)(htd:ti.desc= .array n e)(he:tget c.U e=some ei)(hk:ei.size=k)
 (hx:opv s.T x=some (.pl (.pointer (some ⟨b,0,none⟩)))) (hy:opv s.T y=some (.pl (.int kx i))) (htab:GTab.tab[j]? =some (b,vs)) (hi:0≤i∧i<n) (hds: ∀ (m:Nat) (z:AV),ds[m]? =some z→ ∃ v,vs[i.toNat*k+m]? =some v∧z= .pl v):QOpS c ⟨d,.indexAddr t x y,ty,pos,af,g⟩ s (.vptr ds):=by
 intro a w β hs
 obtain ⟨⟨bt,fr,hw⟩,ho,hb,h1⟩:=hs.heap.glob.at htab
 have hu:=zx ht
 rw [htd] at hu
 refine ⟨.pointer (some ⟨b,0+i.toNat*k,none⟩),.c (VRel.vptr_mk ho hb fun m z hz=> ?_),fun w'=> ?_⟩
 ·obtain ⟨v,hv,rfl⟩:=hds m z hz;refine ⟨v,?_,.pl _,h1 v (List.mem_of_getElem? hv)⟩
  simp only [World.cell?,hw]
  simpa using hv
 ·obtain ⟨m,rfl⟩: ∃ m:Nat,i=m:=⟨i.toNat,by omega⟩
  have hi:m<n:=by omega
  simp [execOp,hs.pl hx,hs.pl hy,Instr.indexAt,Instr.sureAddr,asIntOf,run_underlying hu,hi,QS he,hk,a_add]
theorem run_sliceBounds3 {P:Program}{w:World}{isS:Bool}{len cap:Nat}{lo:Option Value}{l h m:Nat}{k k':IntKind}(hlo:(lo=none∧l=0)∨ ∃ k,lo=some (.int k (l:Int)))(hl:l≤h)(hm:h≤m)(hc:m≤cap):
 (Instr.sliceBounds isS len cap lo (some (.int k (h:Int))) (some (.int k' (m:Int)))).run P w= .ok (l,h,m) w:=by
 rcases hlo with ⟨rfl,rfl⟩|⟨k,rfl⟩<;>simp [Instr.sliceBounds,Instr.sliceBound,asIntOf,hc,hl,hm]
theorem s_slice3_vs {t:TypeId}{x y z:Operand}{lo:Option Operand}{n:Nat}{cs ds:List AV}{ky kz:IntKind}{l h m:Nat}{ti ei:TI}{e:TypeId}(ht:tget c.U t=some ti)(htd:ti.desc= .slice e)(he:tget c.U e=some ei)(hx:opv s.T x=some (.vs n cs))
 (hlo:bnd s.T 0 lo=some (l:Int)) (hy:opv s.T y=some (.pl (.int ky (h:Int)))) (hz:opv s.T z=some (.pl (.int kz (m:Int)))) (hl:l≤h) (hm:h≤m) (hn:m≤n) (hds:(cs.drop (l*ei.size)).take ((h-l)*ei.size)=ds):QOpS c ⟨d,.slice t x lo (some y) (some z),ty,pos,af,g⟩ s (.vs (h-l) ds):=by
 intro a w β hs
 have hu:=zx ht
 rw [htd] at hu
 have h1:(lo.map a.eval=none∧l=0)∨ ∃ k,lo.map a.eval=some (.int k (l:Int)):=by
  rcases run_bnd (P:=c.P) (w:=w) hs hlo with ⟨rfl,h0⟩|⟨q,k,rfl,hq⟩
  ·exact .inl ⟨rfl,by omega⟩
  ·exact .inr ⟨k,by simp [hq]⟩
 obtain ⟨A,cap,hv,hcap,hmem⟩:=(hs.op hx).vs_inv
 have hrun: ∀ w',(execOp a.eval ⟨d,.slice t x lo (some y) (some z),ty,pos,af,g⟩).run c.P w'= .ok (.value (.slice (if m=l then A else A.map (·.add (l*ei.size))) (h-l) (m-l))) w':=fun w'=>by
  simp [execOp,Instr.sliceAt,Instr.slice,run_underlying hu,hv,hs.pl hy,hs.pl hz,run_sliceBounds3 h1 hl hm (Nat.le_trans hn hcap),QS he]
 refine ⟨_,.c ?_,fun w'=>hrun w'⟩
 have hdl: ∀ (i:Nat) (y:AV),ds[i]? =some y→i<(h-l)*ei.size∧cs[l*ei.size+i]? =some y:=fun i y hy=>by
  subst hds
  have hi:=(List.getElem?_eq_some_iff.1 hy).1
  simp at hi
  rw [List.getElem?_take_of_lt (by omega),List.getElem?_drop] at hy
  exact ⟨by omega,hy⟩
 by_cases hhl:h=l
 ·subst hhl
  have:ds=[]:=by subst hds;simp
  subst this
  rw [Nat.sub_self]
  exact .vs0
 ·have hne:m≠l:=by omega
  rw [if_neg hne]
  rcases hmem with h0|⟨blk,o,rfl,ho,hb,hm2⟩
  ·omega
  ·simp only [Option.map_some,a_add]
   refine VRel.vs_mk (by omega) ho hb fun i y hy=> ?_
   rw [Nat.add_assoc]
   exact hm2 _ y (hdl i y hy).2
end
theorem shr_u8_eq (a:UInt8)(c:Nat):(a.toNat:Int).fdiv (2^c)=((u8 ((a.toNat:Int).fdiv (2^c))).toNat:Int):=by
 have h:=a.toNat_lt
 have e:((a.toNat:Int)).fdiv (2^c)=((a.toNat / 2^c:Nat):Int):=by
  rw [Int.fdiv_eq_ediv_of_nonneg _ (by exact Int.le_of_lt (Int.pow_pos (by decide)))]
  rw [Int.natCast_ediv,Int.natCast_pow];rfl
 rw [e]
 have hlt:a.toNat / 2^c<256:=Nat.lt_of_le_of_lt (Nat.div_le_self _ _) h
 unfold u8
 rw [UInt8.toNat_ofNat']
 generalize a.toNat / 2^c=q at hlt
 have:(q:Int) % 256=(q:Int):=Int.emod_eq_of_lt (by omega) (by omega)
 rw [this]
 simp only [Int.toNat_natCast]
 omega
theorem flat_at {α:Type}{ev:α→List Value}{k:Nat}(hk: ∀ a,(ev a).length=k): ∀ (l:List α) (i m:Nat) (hi:i<l.length),m<k→(l.flatMap ev)[i*k+m]? =(ev l[i])[m]?
 |[],i,m,hi,_=>by simp at hi
 |a::l,0,m,hi,hm=>by
  rw [List.flatMap_cons,Nat.zero_mul,Nat.zero_add,List.getElem?_append_left (by rw [hk];exact hm)];rfl
 |a::l,i+1,m,hi,hm=>by
  rw [List.flatMap_cons,List.getElem?_append_right (by rw [hk,Nat.add_mul];omega),hk]
  have:=flat_at hk l i m (by simpa using hi) hm
  rw [show (i+1)*k+m-k=i*k+m by rw [Nat.add_mul];omega,this];rfl
end Go.Abs
namespace Go.Abs
open Go W
variable [GTab]
section
variable {c:Ctx} {Q:Exit→Act→World→Prop} {T:List (Nat×AV)} {H:List (Nat×AObj)} {M:List Nat} {ops:Array Oper} {rest:List Oper} {d:Tmp} {ty:TypeId} {pos:String} {af:Array Edge} {hot:List Nat} {lq:Plan} {i0:Nat}
theorem l_move {x:Operand}{ax:AV}(hnext:RunL c ops Q rest ⟨(d,ax)::T,H,M⟩)(hx:opv T x=some ax:=by exact rfl)(hdo:dstOk c.N (some d)=true:=by exact rfl):RunL c ops Q (⟨some d,.move x,ty,pos,af,none⟩::rest) ⟨T,H,M⟩:=RL_move hx hdo hnext
theorem n_move {x:Operand}{ax:AV}(hnext:RunM c ops hot Q lq ⟨(d,ax)::T,H,M⟩)(hx:opv T x=some ax:=by exact rfl)(hdo:dstOk c.N (some d)=true:=by exact rfl):RunN c ops hot Q i0 false ⟨some d,.move x,ty,pos,af,none⟩ lq ⟨T,H,M⟩:=RN_move hx hdo hnext
theorem l_assign {x:Operand}{ax:AV}(hnext:RunL c ops Q rest ⟨(d,ax)::T,H,M⟩)(hx:opv T x=some ax:=by exact rfl)(hdo:dstOk c.N (some d)=true:=by exact rfl):RunL c ops Q (⟨some d,.assign x,ty,pos,af,none⟩::rest) ⟨T,H,M⟩:=RL_assign hx hdo hnext
theorem n_assign {x:Operand}{ax:AV}(hnext:RunM c ops hot Q lq ⟨(d,ax)::T,H,M⟩)(hx:opv T x=some ax:=by exact rfl)(hdo:dstOk c.N (some d)=true:=by exact rfl):RunN c ops hot Q i0 false ⟨some d,.assign x,ty,pos,af,none⟩ lq ⟨T,H,M⟩:=RN_assign hx hdo hnext
theorem l_pick_true {x y z:Operand}{ax:AV}(hnext:RunL c ops Q rest ⟨(d,ax)::T,H,M⟩)(hc:opv T x=some (.pl (.bool true)):=by exact rfl)(hx:opv T y=some ax:=by exact rfl)(hdo:dstOk c.N (some d)=true:=by exact rfl):RunL c ops Q (⟨some d,.pick x y z,ty,pos,af,none⟩::rest) ⟨T,H,M⟩:=RL_pick_true hc hx hdo hnext
theorem n_pick_true {x y z:Operand}{ax:AV}(hnext:RunM c ops hot Q lq ⟨(d,ax)::T,H,M⟩)(hc:opv T x=some (.pl (.bool true)):=by exact rfl)(hx:opv T y=some ax:=by exact rfl)(hdo:dstOk c.N (some d)=true:=by exact rfl):RunN c ops hot Q i0 false ⟨some d,.pick x y z,ty,pos,af,none⟩ lq ⟨T,H,M⟩:=RN_pick_true hc hx hdo hnext
theorem l_pick_false {x y z:Operand}{ax:AV}(hnext:RunL c ops Q rest ⟨(d,ax)::T,H,M⟩)(hc:opv T x=some (.pl (.bool false)):=by exact rfl)(hx:opv T z=some ax:=by exact rfl)(hdo:dstOk c.N (some d)=true:=by exact rfl):RunL c ops Q (⟨some d,.pick x y z,ty,pos,af,none⟩::rest) ⟨T,H,M⟩:=RL_pick_false hc hx hdo hnext
theorem n_pick_false {x y z:Operand}{ax:AV}(hnext:RunM c ops hot Q lq ⟨(d,ax)::T,H,M⟩)(hc:opv T x=some (.pl (.bool false)):=by exact rfl)(hx:opv T z=some ax:=by exact rfl)(hdo:dstOk c.N (some d)=true:=by exact rfl):RunN c ops hot Q i0 false ⟨some d,.pick x y z,ty,pos,af,none⟩ lq ⟨T,H,M⟩:=RN_pick_false hc hx hdo hnext
theorem l_un {op:UnOp}{t:TypeId}{x:Operand}{u r:Value}(hnext:RunL c ops Q rest ⟨(d,(.pl r))::T,H,M⟩)(hx:opv T x=some (.pl u):=by exact rfl)(hr: ∀ w',(Op.unary op u).run c.P w'= .ok r w':=by exact fun _=>rfl)(hdo:dstOk c.N (some d)=true:=by exact rfl):RunL c ops Q (⟨some d,.unOp op t x,ty,pos,af,none⟩::rest) ⟨T,H,M⟩:=RL_un hx hr hdo hnext
theorem n_un {op:UnOp}{t:TypeId}{x:Operand}{u r:Value}(hnext:RunM c ops hot Q lq ⟨(d,(.pl r))::T,H,M⟩)(hx:opv T x=some (.pl u):=by exact rfl)(hr: ∀ w',(Op.unary op u).run c.P w'= .ok r w':=by exact fun _=>rfl)(hdo:dstOk c.N (some d)=true:=by exact rfl):RunN c ops hot Q i0 false ⟨some d,.unOp op t x,ty,pos,af,none⟩ lq ⟨T,H,M⟩:=RN_un hx hr hdo hnext
theorem l_conv_int {src dst:TypeId}{x:Operand}{k:IntKind}{n:Int}{t1 t2:TI}{k2:IntKind}(hnext:RunL c ops Q rest ⟨(d,(.pl (.int k2 (k2.wrap n))))::T,H,M⟩)(h1:tget c.U src=some t1:=by exact rfl)(h2:tget c.U dst=some t2:=by exact rfl)(hk:t2.desc= .int k2:=by exact rfl)(hx:opv T x=some (.pl (.int k n)):=by exact rfl)(hdo:dstOk c.N (some d)=true:=by exact rfl):RunL c ops Q (⟨some d,.convert src dst x,ty,pos,af,none⟩::rest) ⟨T,H,M⟩:=RL_conv_int h1 h2 hk hx hdo hnext
theorem n_conv_int {src dst:TypeId}{x:Operand}{k:IntKind}{n:Int}{t1 t2:TI}{k2:IntKind}(hnext:RunM c ops hot Q lq ⟨(d,(.pl (.int k2 (k2.wrap n))))::T,H,M⟩)(h1:tget c.U src=some t1:=by exact rfl)(h2:tget c.U dst=some t2:=by exact rfl)(hk:t2.desc= .int k2:=by exact rfl)(hx:opv T x=some (.pl (.int k n)):=by exact rfl)(hdo:dstOk c.N (some d)=true:=by exact rfl):RunN c ops hot Q i0 false ⟨some d,.convert src dst x,ty,pos,af,none⟩ lq ⟨T,H,M⟩:=RN_conv_int h1 h2 hk hx hdo hnext
theorem l_extract {x:Operand}{i:Nat}{xs:List AV}{ax:AV}(hnext:RunL c ops Q rest ⟨(d,ax)::T,H,M⟩)(hx:opv T x=some (.tup xs):=by exact rfl)(hi:xs[i]? =some ax:=by exact rfl)(hdo:dstOk c.N (some d)=true:=by exact rfl):RunL c ops Q (⟨some d,.extract x i,ty,pos,af,none⟩::rest) ⟨T,H,M⟩:=RL_extract hx hi hdo hnext
theorem n_extract {x:Operand}{i:Nat}{xs:List AV}{ax:AV}(hnext:RunM c ops hot Q lq ⟨(d,ax)::T,H,M⟩)(hx:opv T x=some (.tup xs):=by exact rfl)(hi:xs[i]? =some ax:=by exact rfl)(hdo:dstOk c.N (some d)=true:=by exact rfl):RunN c ops hot Q i0 false ⟨some d,.extract x i,ty,pos,af,none⟩ lq ⟨T,H,M⟩:=RN_extract hx hi hdo hnext
theorem l_field {t:TypeId}{x:Operand}{i:Nat}{xs:List AV}{ti fi:TI}{fs:Array Field}{f:Field}{ax:AV}(hnext:RunL c ops Q rest ⟨(d,ax)::T,H,M⟩)(ht:tget c.U t=some ti:=by exact rfl)(hd:ti.desc= .struct fs:=by exact rfl)(hf:fs[i]? =some f:=by exact rfl)(hft:tget c.U f.type=some fi:=by exact rfl)(hfa:aggD fi.desc=false:=by exact rfl)(hx:opv T x=some (.agg xs):=by exact rfl)(hi:xs[f.offset]? =some ax:=by exact rfl)(hdo:dstOk c.N (some d)=true:=by exact rfl):RunL c ops Q (⟨some d,.field t x i,ty,pos,af,none⟩::rest) ⟨T,H,M⟩:=RL_field ht hd hf hft hfa hx hi hdo hnext
theorem n_field {t:TypeId}{x:Operand}{i:Nat}{xs:List AV}{ti fi:TI}{fs:Array Field}{f:Field}{ax:AV}(hnext:RunM c ops hot Q lq ⟨(d,ax)::T,H,M⟩)(ht:tget c.U t=some ti:=by exact rfl)(hd:ti.desc= .struct fs:=by exact rfl)(hf:fs[i]? =some f:=by exact rfl)(hft:tget c.U f.type=some fi:=by exact rfl)(hfa:aggD fi.desc=false:=by exact rfl)(hx:opv T x=some (.agg xs):=by exact rfl)(hi:xs[f.offset]? =some ax:=by exact rfl)(hdo:dstOk c.N (some d)=true:=by exact rfl):RunN c ops hot Q i0 false ⟨some d,.field t x i,ty,pos,af,none⟩ lq ⟨T,H,M⟩:=RN_field ht hd hf hft hfa hx hi hdo hnext
theorem l_fieldAddr {t:TypeId}{x:Operand}{i:Nat}{ax ay:AV}{ti fi:TI}{fs:Array Field}{f:Field}(hnext:RunL c ops Q rest ⟨(d,ay)::T,H,M⟩)(ht:tget c.U t=some ti:=by exact rfl)(hd:ti.desc= .struct fs:=by exact rfl)(hf:fs[i]? =some f:=by exact rfl)(hft:tget c.U f.type=some fi:=by exact rfl)(hne:Nat.beq fi.size 0=false:=by exact rfl)(hx:opv T x=some ax:=by exact rfl)(hy:addrOff ax f.offset=some ay:=by exact rfl)(hdo:dstOk c.N (some d)=true:=by exact rfl):RunL c ops Q (⟨some d,.fieldAddr t x i,ty,pos,af,none⟩::rest) ⟨T,H,M⟩:=RL_fieldAddr ht hd hf hft hne hx hy hdo hnext
theorem n_fieldAddr {t:TypeId}{x:Operand}{i:Nat}{ax ay:AV}{ti fi:TI}{fs:Array Field}{f:Field}(hnext:RunM c ops hot Q lq ⟨(d,ay)::T,H,M⟩)(ht:tget c.U t=some ti:=by exact rfl)(hd:ti.desc= .struct fs:=by exact rfl)(hf:fs[i]? =some f:=by exact rfl)(hft:tget c.U f.type=some fi:=by exact rfl)(hne:Nat.beq fi.size 0=false:=by exact rfl)(hx:opv T x=some ax:=by exact rfl)(hy:addrOff ax f.offset=some ay:=by exact rfl)(hdo:dstOk c.N (some d)=true:=by exact rfl):RunN c ops hot Q i0 false ⟨some d,.fieldAddr t x i,ty,pos,af,none⟩ lq ⟨T,H,M⟩:=RN_fieldAddr ht hd hf hft hne hx hy hdo hnext
theorem l_nilCheck {x:Operand}{ax ay:AV}(hnext:RunL c ops Q rest ⟨(d,ax)::T,H,M⟩)(hx:opv T x=some ax:=by exact rfl)(hy:addrOff ax 0=some ay:=by exact rfl)(hdo:dstOk c.N (some d)=true:=by exact rfl):RunL c ops Q (⟨some d,.nilCheck x,ty,pos,af,none⟩::rest) ⟨T,H,M⟩:=RL_nilCheck hx hy hdo hnext
theorem n_nilCheck {x:Operand}{ax ay:AV}(hnext:RunM c ops hot Q lq ⟨(d,ax)::T,H,M⟩)(hx:opv T x=some ax:=by exact rfl)(hy:addrOff ax 0=some ay:=by exact rfl)(hdo:dstOk c.N (some d)=true:=by exact rfl):RunN c ops hot Q i0 false ⟨some d,.nilCheck x,ty,pos,af,none⟩ lq ⟨T,H,M⟩:=RN_nilCheck hx hy hdo hnext
theorem l_load {t:TypeId}{x:Operand}{ax ay:AV}{cs:List AV}{ti:TI}(hnext:RunL c ops Q rest ⟨(d,ay)::T,H,M⟩)(ht:tget c.U t=some ti:=by exact rfl)(ha:aggD ti.desc=false:=by exact rfl)(hx:opv T x=some ax:=by exact rfl)(hm:memAt H ax=some cs:=by exact rfl)(hc:cs.head? =some ay:=by exact rfl)(hdo:dstOk c.N (some d)=true:=by exact rfl):RunL c ops Q (⟨some d,.load t x,ty,pos,af,none⟩::rest) ⟨T,H,M⟩:=RL_load ht ha hx hm hc hdo hnext
theorem n_load {t:TypeId}{x:Operand}{ax ay:AV}{cs:List AV}{ti:TI}(hnext:RunM c ops hot Q lq ⟨(d,ay)::T,H,M⟩)(ht:tget c.U t=some ti:=by exact rfl)(ha:aggD ti.desc=false:=by exact rfl)(hx:opv T x=some ax:=by exact rfl)(hm:memAt H ax=some cs:=by exact rfl)(hc:cs.head? =some ay:=by exact rfl)(hdo:dstOk c.N (some d)=true:=by exact rfl):RunN c ops hot Q i0 false ⟨some d,.load t x,ty,pos,af,none⟩ lq ⟨T,H,M⟩:=RN_load ht ha hx hm hc hdo hnext
theorem l_load_agg {t:TypeId}{x:Operand}{ax:AV}{cs es:List AV}{ti:TI}(hnext:RunL c ops Q rest ⟨(d,(.agg es))::T,H,M⟩)(ht:tget c.U t=some ti:=by exact rfl)(ha:aggD ti.desc=true:=by exact rfl)(hx:opv T x=some ax:=by exact rfl)(hm:memAt H ax=some cs:=by exact rfl)(hc:cs.take ti.size=es:=by exact rfl)(hl:es.length=ti.size:=by exact rfl)(hdo:dstOk c.N (some d)=true:=by exact rfl):RunL c ops Q (⟨some d,.load t x,ty,pos,af,none⟩::rest) ⟨T,H,M⟩:=RL_load_agg ht ha hx hm hc hl hdo hnext
theorem n_load_agg {t:TypeId}{x:Operand}{ax:AV}{cs es:List AV}{ti:TI}(hnext:RunM c ops hot Q lq ⟨(d,(.agg es))::T,H,M⟩)(ht:tget c.U t=some ti:=by exact rfl)(ha:aggD ti.desc=true:=by exact rfl)(hx:opv T x=some ax:=by exact rfl)(hm:memAt H ax=some cs:=by exact rfl)(hc:cs.take ti.size=es:=by exact rfl)(hl:es.length=ti.size:=by exact rfl)(hdo:dstOk c.N (some d)=true:=by exact rfl):RunN c ops hot Q i0 false ⟨some d,.load t x,ty,pos,af,none⟩ lq ⟨T,H,M⟩:=RN_load_agg ht ha hx hm hc hl hdo hnext
theorem l_makeFunc {f:Fn}{first cap:Array Operand}{l1 l2:List AV}(hnext:RunL c ops Q rest ⟨(d,(.fn f l1 l2))::T,H,M⟩)(h1:opvL T first.toList=some l1:=by exact rfl)(h2:opvL T cap.toList=some l2:=by exact rfl)(hdo:dstOk c.N (some d)=true:=by exact rfl):RunL c ops Q (⟨some d,.makeFunc f first cap,ty,pos,af,none⟩::rest) ⟨T,H,M⟩:=RL_makeFunc h1 h2 hdo hnext
theorem l_makeInterface {t:TypeId}{x:Operand}{ax:AV}{ti:TI}(hnext:RunL c ops Q rest ⟨(d,(.ifc t ax))::T,H,M⟩)(ht:tget c.U t=some ti:=by exact rfl)(hni:(match ti.desc with| .interface _=>true|_=>false)=false:=by exact rfl)(hx:opv T x=some ax:=by exact rfl)(hdo:dstOk c.N (some d)=true:=by exact rfl):RunL c ops Q (⟨some d,.makeInterface t x,ty,pos,af,none⟩::rest) ⟨T,H,M⟩:=RL_makeInterface ht hni hx hdo hnext
theorem l_build {t:TypeId}{parts:Array (Nat×Operand)}{ps:List (Nat×AV)}{zs ds:List AV}{ti:TI}{fs:Array Field}(hnext:RunL c ops Q rest ⟨(d,(.agg ds))::T,H,M⟩)(ht:tget c.U t=some ti:=by exact rfl)(htd:ti.desc= .struct fs:=by exact rfl)(hfs:fsOk c.U fs.toList=true:=by exact rfl)(hz:cellsA (ofVal ti.zero)=zs:=by exact rfl)(hzf:fit (ofVal ti.zero)=true:=by exact rfl)(hps:partsA T parts.toList=some ps:=by exact rfl)(hfill:fillA (placeOf c.U fs) zs ps=some ds:=by exact rfl)(hdo:dstOk c.N (some d)=true:=by exact rfl):RunL c ops Q (⟨some d,.build t parts,ty,pos,af,none⟩::rest) ⟨T,H,M⟩:=RL_build ht htd hfs hz hzf hps hfill hdo hnext
theorem n_build {t:TypeId}{parts:Array (Nat×Operand)}{ps:List (Nat×AV)}{zs ds:List AV}{ti:TI}{fs:Array Field}(hnext:RunM c ops hot Q lq ⟨(d,(.agg ds))::T,H,M⟩)(ht:tget c.U t=some ti:=by exact rfl)(htd:ti.desc= .struct fs:=by exact rfl)(hfs:fsOk c.U fs.toList=true:=by exact rfl)(hz:cellsA (ofVal ti.zero)=zs:=by exact rfl)(hzf:fit (ofVal ti.zero)=true:=by exact rfl)(hps:partsA T parts.toList=some ps:=by exact rfl)(hfill:fillA (placeOf c.U fs) zs ps=some ds:=by exact rfl)(hdo:dstOk c.N (some d)=true:=by exact rfl):RunN c ops hot Q i0 false ⟨some d,.build t parts,ty,pos,af,none⟩ lq ⟨T,H,M⟩:=RN_build ht htd hfs hz hzf hps hfill hdo hnext
theorem l_alloc {t:TypeId}{ti:TI}{cs:List AV}(hnext:RunL c ops Q rest ⟨(d,.ptr (nm (some d)) 0)::T,(nm (some d),.box t cs)::H,M⟩)(ht:tget c.U t=some ti:=by exact rfl)(hcs:cellsA (ofVal ti.zero)=cs:=by exact rfl)(hf:fit (ofVal ti.zero)=true:=by exact rfl)(hb:hget H (nm (some d))=none:=by exact rfl)(hdo:dstOk c.N (some d)=true:=by exact rfl):RunL c ops Q (⟨some d,.alloc t,ty,pos,af,none⟩::rest) ⟨T,H,M⟩:=RL_alloc ht hcs hf hb hdo hnext
theorem l_box {t:TypeId}{x:Operand}{ax:AV}{cs:List AV}(hnext:RunL c ops Q rest ⟨(d,.ptr (nm (some d)) 0)::T,(nm (some d),.box t cs)::H,M⟩)(hx:opv T x=some ax:=by exact rfl)(hcs:cellsA ax=cs:=by exact rfl)(hf:fit ax=true:=by exact rfl)(hb:hget H (nm (some d))=none:=by exact rfl)(hdo:dstOk c.N (some d)=true:=by exact rfl):RunL c ops Q (⟨some d,.box t x,ty,pos,af,none⟩::rest) ⟨T,H,M⟩:=RL_box hx hcs hf hb hdo hnext
theorem l_store_box {tb:TypeId}{t:TypeId}{x y:Operand}{b o:Nat}{ay:AV}{cs es:List AV}{ti:TI}(hnext:RunL c ops Q rest ⟨T,hset H b (.box tb (updL cs o es)),M⟩)(ht:tget c.U t=some ti:=by exact rfl)(hx:opv T x=some (.ptr b o):=by exact rfl)(hy:opv T y=some ay:=by exact rfl)(hes:cellsA ay=es:=by exact rfl)(hf:fit ay=true:=by exact rfl)(hl:es.length=ti.size:=by exact rfl)(hb:hget H b=some (.box tb cs):=by exact rfl)(hin:Nat.ble (o+es.length) cs.length=true:=by exact rfl):RunL c ops Q (⟨none,.store t x y,ty,pos,af,none⟩::rest) ⟨T,H,M⟩:=RL_store_box ht hx hy hes hf hl hb hin hnext
theorem n_store_box {tb:TypeId}{t:TypeId}{x y:Operand}{b o:Nat}{ay:AV}{cs es:List AV}{ti:TI}(hnext:RunM c ops hot Q lq ⟨T,hset H b (.box tb (updL cs o es)),M⟩)(ht:tget c.U t=some ti:=by exact rfl)(hx:opv T x=some (.ptr b o):=by exact rfl)(hy:opv T y=some ay:=by exact rfl)(hes:cellsA ay=es:=by exact rfl)(hf:fit ay=true:=by exact rfl)(hl:es.length=ti.size:=by exact rfl)(hb:hget H b=some (.box tb cs):=by exact rfl)(hin:Nat.ble (o+es.length) cs.length=true:=by exact rfl)(hh:mem i0 hot=true:=by exact rfl):RunN c ops hot Q i0 true ⟨none,.store t x y,ty,pos,af,none⟩ lq ⟨T,H,M⟩:=RN_store_box ht hx hy hes hf hl hb hin hh hnext
theorem l_buildSlice0 {t:TypeId}{parts:Array (Nat×Operand)}{ti ei:TI}{e k:Nat}(hnext:RunL c ops Q rest ⟨(d,.sl (nm (some d)) 0 0)::T,(nm (some d),.row e k 0 [])::H,M⟩)(ht:tget c.U t=some ti:=by exact rfl)(htd:ti.desc= .slice e:=by exact rfl)(he:tget c.U e=some ei:=by exact rfl)(hk:ei.size=k:=by exact rfl)(hp:parts= #[]:=by exact rfl)(hb:hget H (nm (some d))=none:=by exact rfl)(hdo:dstOk c.N (some d)=true:=by exact rfl):RunL c ops Q (⟨some d,.buildSlice t 0 parts,ty,pos,af,none⟩::rest) ⟨T,H,M⟩:=RL_buildSlice0 ht htd he hk hp hb hdo hnext
theorem l_len {t:TypeId}{x:Operand}{ax:AV}{n:Nat}{ti:TI}{e:TypeId}(hnext:RunL c ops Q rest ⟨(d,(.pl (.int .i64 (n:Int))))::T,H,M⟩)(ht:tget c.U t=some ti:=by exact rfl)(htd:ti.desc= .slice e:=by exact rfl)(hx:opv T x=some ax:=by exact rfl)(hn:lenA ax=some n:=by exact rfl)(hdo:dstOk c.N (some d)=true:=by exact rfl):RunL c ops Q (⟨some d,.call {callee:= .builtin .len,args:= #[x],argTypes:= #[t]},ty,pos,af,none⟩::rest) ⟨T,H,M⟩:=RL_len ht htd hx hn hdo hnext
theorem n_len {t:TypeId}{x:Operand}{ax:AV}{n:Nat}{ti:TI}{e:TypeId}(hnext:RunM c ops hot Q lq ⟨(d,(.pl (.int .i64 (n:Int))))::T,H,M⟩)(ht:tget c.U t=some ti:=by exact rfl)(htd:ti.desc= .slice e:=by exact rfl)(hx:opv T x=some ax:=by exact rfl)(hn:lenA ax=some n:=by exact rfl)(hdo:dstOk c.N (some d)=true:=by exact rfl):RunN c ops hot Q i0 false ⟨some d,.call {callee:= .builtin .len,args:= #[x],argTypes:= #[t]},ty,pos,af,none⟩ lq ⟨T,H,M⟩:=RN_len ht htd hx hn hdo hnext
theorem l_bool {op:BinOp}{t t':TypeId}{x y:Operand}{m n r:Bool}{ti:TI}(hnext:RunL c ops Q rest ⟨(d,(.pl (.bool r)))::T,H,M⟩)(ht:tget c.U t=some ti:=by exact rfl)(hd:ti.desc= .bool:=by exact rfl)(hx:opv T x=some (.pl (.bool m)):=by exact rfl)(hy:opv T y=some (.pl (.bool n)):=by exact rfl)(hop:(op= .eql∧r=(m==n))∨(op= .neq∧r= !(m==n)):=by first|exact Or.inl ⟨rfl,rfl⟩|exact Or.inr ⟨rfl,rfl⟩)(hdo:dstOk c.N (some d)=true:=by exact rfl):RunL c ops Q (⟨some d,.binOp op t x y t',ty,pos,af,none⟩::rest) ⟨T,H,M⟩:=RL_bool ht hd hx hy hop hdo hnext
theorem l_cmp {op:BinOp}{t t':TypeId}{x y:Operand}{k:IntKind}{m n:Int}{b:Bool}(hnext:RunL c ops Q rest ⟨(d,(.pl (.bool b)))::T,H,M⟩)(hx:opv T x=some (.pl (.int k m)):=by exact rfl)(hy:opv T y=some (.pl (.int k n)):=by exact rfl)(hb:binOp op t (.int k m) (.int k n)=pure (.bool b):=by exact rfl)(hdo:dstOk c.N (some d)=true:=by exact rfl):RunL c ops Q (⟨some d,.binOp op t x y t',ty,pos,af,none⟩::rest) ⟨T,H,M⟩:=RL_cmp hx hy hb hdo hnext
theorem n_cmp {op:BinOp}{t t':TypeId}{x y:Operand}{k:IntKind}{m n:Int}{b:Bool}(hnext:RunM c ops hot Q lq ⟨(d,(.pl (.bool b)))::T,H,M⟩)(hx:opv T x=some (.pl (.int k m)):=by exact rfl)(hy:opv T y=some (.pl (.int k n)):=by exact rfl)(hb:binOp op t (.int k m) (.int k n)=pure (.bool b):=by exact rfl)(hdo:dstOk c.N (some d)=true:=by exact rfl):RunN c ops hot Q i0 false ⟨some d,.binOp op t x y t',ty,pos,af,none⟩ lq ⟨T,H,M⟩:=RN_cmp hx hy hb hdo hnext
abbrev I (n:Int):AV:= .pl (.int .i64 n)
abbrev B (b:Bool):AV:= .pl (.bool b)
abbrev U (b:UInt8):AV:= .pl (.int .u8 (b.toNat:Int))
abbrev S (l:List UInt8):AV:= .pl (.string ⟨l.toArray⟩)
abbrev F {α:Type}(e:α→List AV)(l:List α):List AV:=l.flatMap e
theorem bind_some {α ρ:Type}{g:Option α}{kk:α→Option ρ}{r:ρ}(h:g.bind kk=some r): ∃ v,g=some v∧kk v=some r:=by
 cases g with
 |none=>cases h
 |some v=>exact ⟨v,rfl,h⟩
theorem cond_some {α:Type}{b:Bool}{x y:Option α}{r:α}(h:(bif b then x else y)=some r):(b=true∧x=some r)∨(b=false∧y=some r):=by
 cases b with
 |true=>exact .inl ⟨rfl,h⟩
 |false=>exact .inr ⟨rfl,h⟩
theorem Le_vptr (xs ys:List AV):AV.Le (.vptr (xs++ys)) (.vptr xs):=by
 intro F β w v h
 obtain ⟨b,o,rfl,h1,h2,h3⟩:=h.vptr_inv;exact .c (VRel.vptr_mk h1 h2 fun i x hx=>h3 i x (by rw [List.getElem?_append_left (List.getElem?_eq_some_iff.1 hx).1];exact hx))
def cI (n:Int):List AV:=[I n]
def cR (n:Int):List AV:=[.pl (.int .i32 n)]
def cU (b:UInt8):List AV:=[U b]
def cS (l:List UInt8):List AV:=[S l]
def oC {α:Type}(e:α→List AV)(o:Option α):List AV:=match o with|none=>[]|some x=>e x
def oP {α:Type}(e:α→List AV)(o:Option α):AV:= .optr o.isNone (oC e o)
theorem F_cU: ∀ l:List UInt8,F cU l=encB l
 |[]=>rfl
 |b::r=>by rw [F,List.flatMap_cons,←F,F_cU r];rfl
theorem Qv {α:Type}{e:α→List AV}{k:Nat}(hz: ∀ a,(e a).length=k)(l:List α):(F e l).length=l.length*k:=flat_length hz l
theorem F_app {α:Type}{e:α→List AV}{k:Nat}(hz: ∀ a,(e a).length=k){l m:List α}:F e (l++m)=List.take (l.length*k) (List.drop 0 (F e l))++F e m:=by
 rw [List.drop_zero,List.take_of_length_le (by rw [Qv hz];omega),F,List.flatMap_append]
theorem F_drop {α:Type}{e:α→List AV}{k:Nat}(hz: ∀ a,(e a).length=k): ∀ (l:List α) (i:Nat),(F e l).drop (i*k)=F e (l.drop i)
 |l,0=>by simp
 |[],i+1=>by simp [F]
 |a::r,i+1=>by
  rw [F,List.flatMap_cons,List.drop_succ_cons,←F_drop hz r i,Nat.add_mul,Nat.one_mul,Nat.add_comm,←List.drop_drop,List.drop_left' (hz a)]
theorem F_takeN {α:Type}{e:α→List AV}{k:Nat}(hz: ∀ a,(e a).length=k): ∀ (l:List α) (i:Nat),(F e l).take (i*k)=F e (l.take i)
 |l,0=>by simp
 |[],i+1=>by simp [F]
 |a::r,i+1=>by
  rw [F,List.flatMap_cons,List.take_succ_cons,F,List.flatMap_cons,←F,←F,←F_takeN hz r i,Nat.add_mul,Nat.one_mul,Nat.add_comm,List.take_append,List.take_of_length_le (by rw [hz];omega),hz,Nat.add_sub_cancel_left]
theorem F_sub {α:Type}{e:α→List AV}{k:Nat}(hz: ∀ a,(e a).length=k)(l:List α)(i n:Nat):((F e l).drop (i*k)).take (n*k)=F e ((l.drop i).take n):=by rw [F_drop hz,F_takeN hz]
theorem F_at {α:Type}{e:α→List AV}{k:Nat}(hz: ∀ a,(e a).length=k){l:List α}{i:Int}{a:α}(ha:at' l i=some a):(F e l).drop (i.toNat*k)=e a++F e (l.drop (i.toNat+1)):=by
 obtain ⟨h0,hlt,hg⟩:=at'_some ha
 have hi:i.toNat<l.length:=by omega
 rw [List.getElem?_eq_getElem hi] at hg
 cases hg
 exact flat_drop hz l i.toNat hi
theorem F_take {α:Type}{e:α→List AV}{k:Nat}(hz: ∀ a,(e a).length=k){l:List α}{i:Int}{a:α}(ha:at' l i=some a):((F e l).drop (i.toNat*k)).take k=e a:=by
 rw [F_at hz ha,List.take_append,List.take_of_length_le (by rw [hz];omega),hz,Nat.sub_self,List.take_zero,List.append_nil]
theorem F_head {α:Type}{e:α→List AV}{k o:Nat}(hz: ∀ a,(e a).length=k){l:List α}{i:Int}{a:α}{x:AV}(ha:at' l i=some a)(hc:(e a)[o]? =some x):((F e l).drop (i.toNat*k+o)).head? =some x:=by
 have:=(List.getElem?_eq_some_iff.1 hc).1
 rw [←List.drop_drop,F_at hz ha,List.drop_append_of_le_length (by omega),List.head?_append,List.head?_drop,hc];rfl
theorem cat_lim {l m:List UInt8}(h:l.length+m.length≤9223372036854775807): ¬ IntKind.i64.max<(((ByteArray.mk l.toArray).size+(ByteArray.mk m.toArray).size:Nat):Int):=by
 have e:IntKind.i64.max=9223372036854775807:=by decide
 show ¬ IntKind.i64.max<((l.length+m.length:Nat):Int)
 omega
theorem run_cat {P:Program}{w:World}{l m:List UInt8}(h:l.length+m.length≤9223372036854775807):(Op.stringOp .add ⟨l.toArray⟩ ⟨m.toArray⟩).run P w= .ok (.string ⟨(l++m).toArray⟩) w:=by
 have e:(⟨l.toArray⟩++⟨m.toArray⟩:ByteArray)=⟨(l++m).toArray⟩:=by apply ByteArray.ext;simp
 unfold Op.stringOp
 simp only
 rw [if_neg (cat_lim h),e]
 rfl
theorem lt_eq: ∀ l m:List UInt8,Op.bytesLess l m=lt l m
 |_,[]=>by cases ‹List UInt8› <;>rfl
 |[],_::_=>rfl
 |a::x,b::y=>by simp only [Op.bytesLess,lt,lt_eq x y]
theorem wrap_u8_eq (n:Int):IntKind.u8.wrap n=((u8 n).toNat:Int):=by
 have e:(2^IntKind.u8.bits:Int)=256:=by decide
 unfold IntKind.wrap u8
 simp only [e,show IntKind.u8.signed=false from rfl,Bool.false_and,Bool.false_eq_true,if_false]
 rw [UInt8.toNat_ofNat']
 omega
theorem add_u8_eq (a b:UInt8):IntKind.u8.wrap ((a.toNat:Int)+(b.toNat:Int))=((a+b).toNat:Int):=by
 have e:(2^IntKind.u8.bits:Int)=256:=by decide
 unfold IntKind.wrap
 simp only [e,show IntKind.u8.signed=false from rfl,Bool.false_and,Bool.false_eq_true,if_false]
 rw [UInt8.toNat_add]
 omega
theorem sub_u8_eq (a b:UInt8):IntKind.u8.wrap ((a.toNat:Int)-(b.toNat:Int))=((a-b).toNat:Int):=by
 have e:(2^IntKind.u8.bits:Int)=256:=by decide
 unfold IntKind.wrap
 simp only [e,show IntKind.u8.signed=false from rfl,Bool.false_and,Bool.false_eq_true,if_false]
 rw [UInt8.toNat_sub]
 have:=a.toNat_lt
 have:=b.toNat_lt
 omega
theorem closedL_app: ∀ {l m:List AV},AV.closedL l=true→AV.closedL m=true→AV.closedL (l++m)=true
 |[],_,_,h=>h
 |x::r,m,h,h'=>by simp only [AV.closedL,Bool.and_eq_true] at h;simp only [List.cons_append,AV.closedL,Bool.and_eq_true];exact ⟨h.1,closedL_app h.2 h'⟩
theorem onlyL_app {ns:List Nat}: ∀ {l m:List AV},AV.onlyL ns l=true→AV.onlyL ns m=true→AV.onlyL ns (l++m)=true
 |[],_,_,h=>h
 |x::r,m,h,h'=>by simp only [AV.onlyL,Bool.and_eq_true] at h;simp only [List.cons_append,AV.onlyL,Bool.and_eq_true];exact ⟨h.1,onlyL_app h.2 h'⟩
mutual
theorem mapN_closed {f:AV→AV}: ∀ {x:AV},x.closed=true→x.mapN f=x
 | .agg cs,h=>by rw [AV.mapN,zz (by simpa [AV.closed] using h)]
 | .tup cs,h=>by rw [AV.mapN,zz (by simpa [AV.closed] using h)]
 | .fn g cs ds,h=>by
  simp only [AV.closed,Bool.and_eq_true] at h
  rw [AV.mapN,zz h.1,zz h.2]
 | .ifc t x,h=>by rw [AV.mapN,mapN_closed (by simpa [AV.closed] using h)]
 | .nptr z b o,h=>by cases h
 | .sl b o n,h=>by cases h
 | .mp b,h=>by cases h
 | .it b,h=>by cases h
 | .pl v,_=>rfl
 | .optr z cs,_=>rfl
 | .vs n cs,_=>rfl
 | .vm _ _,_=>rfl
 | .anyp,h=>rfl
 | .junk,h=>rfl
 | .gone,h=>rfl
theorem zz {f:AV→AV}: ∀ {l:List AV},AV.closedL l=true→AV.mapNL f l=l
 |[],_=>rfl
 |x::r,h=>by
  simp only [AV.closedL,Bool.and_eq_true] at h
  rw [AV.mapNL,mapN_closed h.1,zz h.2]
end
mutual
theorem closed_only {ns:List Nat}: ∀ {x:AV},x.closed=true→x.only ns=true
 | .pl _,_=>rfl
 | .agg cs,h=>zF (l:=cs) h
 | .tup cs,h=>zF (l:=cs) h
 | .fn _ cs ds,h=>by
  simp only [AV.closed,Bool.and_eq_true] at h
  simp only [AV.only,Bool.and_eq_true]
  exact ⟨zF h.1,zF h.2⟩
 | .ifc _ x,h=>closed_only (x:=x) h
 | .optr _ _,_=>rfl
 | .vs _ _,_=>rfl
 | .vm _ _,_=>rfl
 | .nptr _ _ _,h=>by cases h
 | .sl _ _ _,h=>by cases h
 | .mp _,h=>by cases h
 | .it _,h=>by cases h
 | .anyp,h=>by cases h
 | .junk,h=>by cases h
 | .gone,h=>by cases h
theorem zF {ns:List Nat}: ∀ {l:List AV},AV.closedL l=true→AV.onlyL ns l=true
 |[],_=>rfl
 |x::r,h=>by
  simp only [AV.closedL,Bool.and_eq_true] at h
  simp only [AV.onlyL,Bool.and_eq_true]
  exact ⟨closed_only h.1,zF h.2⟩
end
theorem get_fn {i:Nat}{k:FuncId}{fc:List AV}{f:AV→AV}(h:get T i=some (.fn (.func k) [] fc))(hc:AV.closedL fc=true):get (mapT f T) i=some (.fn (.func k) [] fc):=by
 rw [get_mapT,h,Option.map_some,AV.mapN,zz hc];rfl
mutual
theorem kill_closed (b:Nat): ∀ {x:AV},x.closed=true→x.kill b=x
 | .pl _,_=>rfl
 | .agg cs,h=>by rw [AV.kill,Qk b (l:=cs) h]
 | .tup cs,h=>by rw [AV.kill,Qk b (l:=cs) h]
 | .fn _ cs ds,h=>by
  simp only [AV.closed,Bool.and_eq_true] at h
  rw [AV.kill,Qk b h.1,Qk b h.2]
 | .ifc _ x,h=>by rw [AV.kill,kill_closed b (x:=x) h]
 | .optr _ _,_=>rfl
 | .vs _ _,_=>rfl
 | .vm _ _,_=>rfl
 | .nptr _ _ _,h=>by cases h
 | .sl _ _ _,h=>by cases h
 | .mp _,h=>by cases h
 | .it _,h=>by cases h
 | .anyp,h=>by cases h
 | .junk,h=>by cases h
 | .gone,h=>by cases h
theorem Qk (b:Nat): ∀ {l:List AV},AV.closedL l=true→AV.killL b l=l
 |[],_=>rfl
 |x::r,h=>by
  simp only [AV.closedL,Bool.and_eq_true] at h
  rw [AV.killL,kill_closed b h.1,Qk b h.2]
end
theorem get_fnx {i:Nat}{k:FuncId}{fc l:List AV}{f:AV→AV}(h:get T i=some (.fn (.func k) [] l))(hl:AV.mapNL f l=fc):get (mapT f T) i=some (.fn (.func k) [] fc):=by
 rw [get_mapT,h,Option.map_some,AV.mapN,hl];rfl
theorem Sat.weak1 {i:Nat}{x y:AV}{a:Act}{w:World}(h:Sat c ⟨(i,x)::T,H,M⟩ a w)(hle:AV.Le x y):Sat c ⟨(i,y)::T,H,M⟩ a w:=by
 obtain ⟨β,hs⟩:=h;refine ⟨β,hs.defers,hs.size,hs.heap,fun j z hz=> ?_,hs.keeps,hs.stay⟩
 rw [Qf] at hz
 by_cases e:i=j
 ·rw [if_pos e] at hz;cases hz
  obtain ⟨v,hv,hr⟩:=hs.slot j x (by rw [Qf,if_pos e]);exact ⟨v,hv,hle _ _ _ _ hr⟩
 ·rw [if_neg e] at hz
  exact hs.slot j z (by rw [Qf,if_neg e];exact hz)
theorem F_append {α:Type}(e:α→List AV)(l m:List α):F e (l++m)=F e l++F e m:=by simp only [F,List.flatMap_append]
theorem F_rep {α:Type}(e:α→List AV)(z:α): ∀ n:Nat,(List.replicate n (e z)).flatMap id=F e (List.replicate n z)
 |0=>rfl
 |n+1=>by rw [List.replicate_succ,List.flatMap_cons,F_rep e z n,List.replicate_succ,F,F,List.flatMap_cons];rfl
theorem updL_right {x y es:List AV}{o:Nat}:updL (x++y) (x.length+o) es=x++updL y o es:=by
 unfold updL
 rw [List.take_length_add_append,List.append_assoc,Nat.add_assoc,List.drop_length_add_append]
theorem updL_left {x y es:List AV}{o:Nat}(h:o+es.length≤x.length):updL (x++y) o es=updL x o es++y:=by
 unfold updL
 rw [List.take_append_of_le_length (by omega),List.drop_append_of_le_length h]
 simp only [List.append_assoc]
theorem F_put {α:Type}{e:α→List AV}{k o:Nat}(hz: ∀ a,(e a).length=k){l:List α}{i:Int}{a a':α}{es:List AV}(ha:at' l i=some a)(hl:o+es.length≤k)(hu:updL (e a) o es=e a'):updL (F e l) (i.toNat*k+o) es=F e (l.set i.toNat a'):=by
 obtain ⟨h0,hlt,hg⟩:=at'_some ha
 have hi:i.toNat<l.length:=by omega
 rw [List.getElem?_eq_getElem hi] at hg
 cases hg
 have e1:l=l.take i.toNat++(l[i.toNat]::l.drop (i.toNat+1)):=by rw [←List.drop_eq_getElem_cons hi,List.take_append_drop]
 have e2:l.set i.toNat a'=l.take i.toNat++(a'::l.drop (i.toNat+1)):=List.set_eq_take_append_cons_drop.trans (if_pos hi)
 rw [e2]
 conv=>lhs;rw [e1]
 have hlen:(F e (l.take i.toNat)).length=i.toNat*k:=by rw [Qv hz,List.length_take,Nat.min_eq_left (by omega)]
 rw [F_append,F_append,←hlen,updL_right]
 have e3: ∀ b m,F e (b::m)=e b++F e m:=fun b m=>by simp only [F,List.flatMap_cons]
 rw [e3,e3,updL_left (by rw [hz];exact hl),hu]
theorem k_seq {x y:Code}{s:St}(h:Run c (Exit.then (y.wp c.P Q) Q) x s):Run c Q (.seq x y) s:=Run_seq h
theorem zn {ρ:Type}{x:Operand}{p q:Code}{b:Bool}{o1 o2:Option ρ}{r:ρ}(h:(bif b then o1 else o2)=some r)(ht:b=true→o1=some r→Run c Q p ⟨T,H,M⟩)(hf:b=false→o2=some r→Run c Q q ⟨T,H,M⟩)
 (hx:opv T x=some (.pl (.bool b)):=by exact rfl):Run c Q (.cond x p q) ⟨T,H,M⟩:=by
 rcases cond_some h with ⟨rfl,h⟩|⟨rfl,h⟩
 ·exact Run_cond_true hx (ht rfl h)
 ·exact Run_cond_false hx (hf rfl h)
theorem k_t {x:Operand}{p q:Code}(h:Run c Q p ⟨T,H,M⟩)(hx:opv T x=some (.pl (.bool true)):=by exact rfl):Run c Q (.cond x p q) ⟨T,H,M⟩:=Run_cond_true hx h
theorem k_f {x:Operand}{p q:Code}(h:Run c Q q ⟨T,H,M⟩)(hx:opv T x=some (.pl (.bool false)):=by exact rfl):Run c Q (.cond x p q) ⟨T,H,M⟩:=Run_cond_false hx h
theorem k_reg {id:Nat}{l:List Oper}{s:St}(h:RunL c l.toArray Q l s):Run c Q (.region id l.toArray false) s:=Run_region h
theorem ZH {id:Nat}{lo:List Oper}{s:St}(hot:List Nat)(l:Plan)(hm:c.P.follows .mixedOrders=true)(h:RunM c lo.toArray hot Q l s)(hB:mixOk lo.toArray hot l=true:=by kernel_rfl):Run c Q (.region id lo.toArray true) s:=Run_region_m hot l hm hB h
theorem k_nil {s:St}(h:Fin c Q .normal s):RunL c ops Q [] s:=RunL_nil h
theorem m_nil {s:St}(h:Fin c Q .normal s):RunM c ops hot Q .done s:=RunM_nil h
theorem gq {o:Oper}{s:St}(h:RunN c ops hot Q i0 false o lq s)(hi:ops[i0]? =some o:=by (simp only [List.getElem?_toArray,List.getElem?_cons_zero,List.getElem?_cons_succ];exact rfl)):RunM c ops hot Q (.q i0 lq) s:=RunM_getq hi h
theorem ge {o:Oper}{s:St}(h:RunN c ops hot Q i0 true o lq s)(hi:ops[i0]? =some o:=by (simp only [List.getElem?_toArray,List.getElem?_cons_zero,List.getElem?_cons_succ];exact rfl)):RunM c ops hot Q (.e i0 lq) s:=RunM_gete hi h
theorem l_on {op:Op}{j:Nat}{b:Bool}{q:Nat}(h:RunL c ops Q (⟨some d,op,ty,pos,af,none⟩::rest) ⟨T,H,M⟩)(hj:((ops[j]?).bind (·.dst))=some q:=by exact rfl)(hx:get T q=some (.pl (.bool b)):=by exact rfl):RunL c ops Q (⟨some d,op,ty,pos,af,some (j,b)⟩::rest) ⟨T,H,M⟩:=RL_on hj hx h
def offB:Value→Bool→Bool
 | .bool b',b=>b' != b
 |_,_=>true
theorem off_wanted {s:St}{β:Emb}{a:Act}{w:World}(hs:SatB c s β a w){o:Oper}{j q:Nat}{b:Bool}{u:Value}(hg:o.guard=some (j,b))(hj:((ops[j]?).bind (·.dst))=some q)(hx:get s.T q=some (.pl u))(hu:offB u b=true):Region.wanted o (yielded ops a.tmps)=false:=by
 obtain ⟨v,hv,hr⟩:=hs.slot q _ hx;obtain rfl:=hr.pl_eq
 simp only [Region.wanted,hg,yielded,hj,Option.bind_some,hv]
 cases v<;>first|rfl|(simp [offB] at hu;rename_i b';cases b<;>cases b'<;>simp_all)
theorem l_off {op:Op}{j:Nat}{b:Bool}{u:Value}{q:Nat}(h:RunL c ops Q rest ⟨(d,.pl undef)::T,H,M⟩)(hj:((ops[j]?).bind (·.dst))=some q:=by exact rfl)(hx:get T q=some (.pl u):=by exact rfl)(hu:offB u b=true:=by exact rfl)(hd:dstOk c.N (some d)=true:=by exact rfl):RunL c ops Q (⟨some d,op,ty,pos,af,some (j,b)⟩::rest) ⟨T,H,M⟩:=by
 rintro a w ⟨β,hs⟩
 have hw:=off_wanted hs (o:=⟨some d,op,ty,pos,af,some (j,b)⟩) rfl hj hx hu
 unfold wpList
 rw [hw]
 exact h _ _ ⟨β,hs.put hd (.c (.pl undef))⟩
theorem n_on {op:Op}{j:Nat}{b e:Bool}{q:Nat}(h:RunN c ops hot Q i0 e ⟨some d,op,ty,pos,af,none⟩ lq ⟨T,H,M⟩)(hj:((ops[j]?).bind (·.dst))=some q:=by exact rfl)(hx:get T q=some (.pl (.bool b)):=by exact rfl):RunN c ops hot Q i0 e ⟨some d,op,ty,pos,af,some (j,b)⟩ lq ⟨T,H,M⟩:=RN_on hj hx h
theorem n_off {op:Op}{j:Nat}{b e:Bool}{u:Value}{q:Nat}(h:RunM c ops hot Q lq ⟨(d,.pl undef)::T,H,M⟩)(hj:((ops[j]?).bind (·.dst))=some q:=by exact rfl)(hx:get T q=some (.pl u):=by exact rfl)(hu:offB u b=true:=by exact rfl)(hd:dstOk c.N (some d)=true:=by exact rfl):RunN c ops hot Q i0 e ⟨some d,op,ty,pos,af,some (j,b)⟩ lq ⟨T,H,M⟩:=by
 rintro g hi hwt a w ⟨β,hs⟩
 have hw:Region.wanted {(⟨some d,op,ty,pos,af,some (j,b)⟩:Oper) with guard:=g} (yielded ops a.tmps)=false:=by
  rw [hwt a w β hs]
  exact off_wanted hs rfl hj hx hu
 have hk:=h _ _ ⟨β,hs.put hd (x:= .pl undef) (v:=undef) (.c (.pl undef))⟩
 cases e with
 |false=>
  simp only [Plan.step,wpMix,hi]
  exact ⟨undef,.inr ⟨hw,rfl⟩,hk⟩
 |true=>
  simp only [Plan.step,wpMix,wpOp,hi,hw]
  exact ⟨.inr (RowKit.Below.refl _ _),hk⟩
theorem zc {ρ:Type}{op:Op}{j:Nat}{b e:Bool}{q:Nat}{o1 o2:Option ρ}{r:ρ}(h:(bif e then o1 else o2)=some r)(ht:e=true→o1=some r→RunL c ops Q (⟨some d,op,ty,pos,af,some (j,b)⟩::rest) ⟨(q,.pl (.bool true))::T,H,M⟩)
 (hf:e=false→o2=some r→RunL c ops Q (⟨some d,op,ty,pos,af,some (j,b)⟩::rest) ⟨(q,.pl (.bool false))::T,H,M⟩) (hj:((ops[j]?).bind (·.dst))=some q:=by exact rfl) (hx:get T q=some (.pl (.bool e)):=by exact rfl):RunL c ops Q (⟨some d,op,ty,pos,af,some (j,b)⟩::rest) ⟨T,H,M⟩:=by
 rcases cond_some h with ⟨rfl,h⟩|⟨rfl,h⟩
 ·exact RL_split hj hx (fun e=>ht rfl h) (fun e=>by cases e)
 ·exact RL_split hj hx (fun e=>by cases e) (fun e=>hf rfl h)
theorem QC {ρ:Type}{op:Op}{j:Nat}{b e f:Bool}{q:Nat}{o1 o2:Option ρ}{r:ρ}(h:(bif f then o1 else o2)=some r)(ht:f=true→o1=some r→RunN c ops hot Q i0 e ⟨some d,op,ty,pos,af,some (j,b)⟩ lq ⟨(q,.pl (.bool true))::T,H,M⟩)
 (hf:f=false→o2=some r→RunN c ops hot Q i0 e ⟨some d,op,ty,pos,af,some (j,b)⟩ lq ⟨(q,.pl (.bool false))::T,H,M⟩) (hj:((ops[j]?).bind (·.dst))=some q:=by exact rfl) (hx:get T q=some (.pl (.bool f)):=by exact rfl):RunN c ops hot Q i0 e ⟨some d,op,ty,pos,af,some (j,b)⟩ lq ⟨T,H,M⟩:=by
 rcases cond_some h with ⟨rfl,h⟩|⟨rfl,h⟩
 ·exact RN_split hj hx (fun e=>ht rfl h) (fun e=>by cases e)
 ·exact RN_split hj hx (fun e=>by cases e) (fun e=>hf rfl h)
theorem f_t {y:Code}{s:St}(h:Run c Q y s):Fin c (Exit.then (y.wp c.P Q) Q) .normal s:=h
theorem f_te {K:Act→World→Prop}{id:Nat}{s:St}(h:Fin c Q (.exit id) s):Fin c (Exit.then K Q) (.exit id) s:=h
theorem f_tr {K:Act→World→Prop}{s:St}(h:Fin c Q .ret s):Fin c (Exit.then K Q) .ret s:=h
theorem f_b {id:Nat}{s:St}(h:Fin c Q .normal s):Fin c (Exit.inBlock id Q) .normal s:=h
theorem f_br {id:Nat}{s:St}(h:Fin c Q .ret s):Fin c (Exit.inBlock id Q) .ret s:=h
theorem f_be {id:Nat}{s:St}(h:Fin c Q .normal s):Fin c (Exit.inBlock id Q) (.exit id) s:=Fin_block_exit h
theorem f_bo {id id':Nat}{s:St}(h:Fin c Q (.exit id') s)(hne:Nat.beq id' id=false:=by exact rfl):Fin c (Exit.inBlock id Q) (.exit id') s:=Fin_block_on hne h
def Ex {ω:Type}(X:ω→Exit×St)(c:Ctx)(t:ω):Exit→Act→World→Prop:=fun e a w=>(X t).1=e∧Sat c (X t).2 a w
theorem Run_mono {x:Code}{s:St}{Q':Exit→Act→World→Prop}(h:Run c Q x s)(hq: ∀ e a w,Q e a w→Q' e a w):Run c Q' x s:=fun a w hs=>wp_mono (h a w hs) (fun e a w=>hq e a w)
theorem qW {ω ρ:Type}{x:Code}{s:St}{o:Option ω}{kk:ω→Option ρ}{r:ρ}(X:ω→Exit×St)(h:o.bind kk=some r)(h1: ∀ t,o=some t→Run c (Ex X c t) x s)(h2: ∀ t,kk t=some r→Fin c Q (X t).1 (X t).2):Run c Q x s:=by
 obtain ⟨t,ht,hk⟩:=bind_some h
 exact Run_mono (h1 t ht) fun e a w ⟨he,hs⟩=>by subst he;exact h2 t hk a w hs
theorem zH {τ ω ρ:Type}{x:Code}{f:τ→Option (τ⊕ω)}{y0:τ}{kk:ω→Option ρ}{r:ρ}{N:List Nat}(S:τ→St)(X:ω→Exit×St)(σ:List (Nat×Nat))(hB: ∀ b p,c.β0 b=some p→mem b N=true)(h:(iter f y0).bind kk=some r)
 (h1: ∀ y t,f y=some t→Run c (Exit.then (fun a w=> ∃ z,t= .inl z∧Sat c (S z) a w) (fun e a w=> ∃ q,t= .inr q∧Ex X c q e a w)) x (S y)) (h2: ∀ q,kk q=some r→Fin c Q (X q).1 (X q).2)
 (hσ:okS σ=true:=by exact rfl) (hH:pickS σ σ H=some (S y0).H:=by exact rfl) (hT:Sub (S y0).T (mapT (reL σ) T):=by (repeat' first|exact True.intro|exact rfl|exact get_fn rfl (And.left (by assumption))|exact get_fnk rfl (And.left (by assumption))|exact get_fnk2 rfl (And.left (by assumption))|(refine get_fnx rfl ?_;(have hcc:=And.left (by assumption:AV.closedL _=true∧AV.onlyL [] _=true));simp only [Qk _ hcc,zz hcc])|apply And.intro)) (hM:okM σ M (S y0).M N=true:=by exact rfl):Run c Q (.loop x) ⟨T,H,M⟩:=by
 obtain ⟨q,hq,hk⟩:=bind_some h;obtain ⟨n,hn⟩:=iterN_of hq
 intro a w hs
 have hs0:Sat c (S y0) a w:=hs.to σ hσ hH hT hB hM
 refine wp_mono (Run_loop (c:=c) (Q:=Ex X c q) (x:=x) (fun y:Nat×τ=>S y.2) (fun y=>iterN f y.1 y.2=some q) (fun y=>y.1) (n,y0) hn (fun y hy=> ?_) a w hs0) fun e a w ⟨he,hs⟩=>by subst he;exact h2 q hk a w hs
 obtain ⟨m,y⟩:=y
 cases m with
 |zero=>cases hy
 |succ m=>
  obtain ⟨t,ht,hkt⟩:=bind_some hy;refine Run_mono (h1 y t ht) fun e a w hq'=> ?_
  cases e with
  |normal=>
   obtain ⟨z,rfl,hz⟩:=hq';exact ⟨(m,z),hkt,Nat.lt_succ_self m,hz⟩
  |exit id=>obtain ⟨q',rfl,hx⟩:=hq';cases hkt;exact hx
  |goto l=>obtain ⟨q',rfl,hx⟩:=hq';cases hkt;exact hx
  |ret=>obtain ⟨q',rfl,hx⟩:=hq';cases hkt;exact hx
  |panic ch=>obtain ⟨q',rfl,hx⟩:=hq';cases hkt;exact hx
  |outgrown=>obtain ⟨q',rfl,hx⟩:=hq';cases hkt;exact hx
theorem zu {τ ω:Type}{S:τ→St}{z0:τ}{t:τ⊕ω}{N:List Nat}(σ:List (Nat×Nat))(hB: ∀ b p,c.β0 b=some p→mem b N=true)(h:some (Sum.inl z0)=some t)
 (hσ:okS σ=true:=by exact rfl) (hH:pickS σ σ H=some (S z0).H:=by exact rfl) (hT:Sub (S z0).T (mapT (reL σ) T):=by (repeat' first|exact True.intro|exact rfl|exact get_fn rfl (And.left (by assumption))|exact get_fnk rfl (And.left (by assumption))|exact get_fnk2 rfl (And.left (by assumption))|(refine get_fnx rfl ?_;(have hcc:=And.left (by assumption:AV.closedL _=true∧AV.onlyL [] _=true));simp only [Qk _ hcc,zz hcc])|apply And.intro)) (hM:okM σ M (S z0).M N=true:=by exact rfl):
 Fin c (Exit.then (fun a w=> ∃ z,t= .inl z∧Sat c (S z) a w) Q) .normal ⟨T,H,M⟩:=by
 cases h
 exact fun a w hs=>⟨z0,rfl,hs.to σ hσ hH hT hB hM⟩
theorem zr {τ ω:Type}{X:ω→Exit×St}{K:Act→World→Prop}{q0:ω}{t:τ⊕ω}{e:Exit}{N:List Nat}(σ:List (Nat×Nat))(hB: ∀ b p,c.β0 b=some p→mem b N=true)(h:some (Sum.inr q0)=some t)
 (he:(X q0).1=e:=by exact rfl) (hn:(match e with| .normal=>false|_=>true)=true:=by exact rfl) (hσ:okS σ=true:=by exact rfl) (hH:pickS σ σ H=some (X q0).2.H:=by exact rfl) (hT:Sub (X q0).2.T (mapT (reL σ) T):=by (repeat' first|exact True.intro|exact rfl|exact get_fn rfl (And.left (by assumption))|exact get_fnk rfl (And.left (by assumption))|exact get_fnk2 rfl (And.left (by assumption))|(refine get_fnx rfl ?_;(have hcc:=And.left (by assumption:AV.closedL _=true∧AV.onlyL [] _=true));simp only [Qk _ hcc,zz hcc])|apply And.intro)) (hM:okM σ M (X q0).2.M N=true:=by exact rfl):
 Fin c (Exit.then K (fun e a w=> ∃ q,t= .inr q∧Ex X c q e a w)) e ⟨T,H,M⟩:=by
 cases h
 intro a w hs
 have:Sat c (X q0).2 a w:=hs.to σ hσ hH hT hB hM
 cases e with
 |normal=>cases hn
 |exit id=>exact ⟨q0,rfl,he,this⟩
 |goto l=>exact ⟨q0,rfl,he,this⟩
 |ret=>exact ⟨q0,rfl,he,this⟩
 |panic ch=>exact ⟨q0,rfl,he,this⟩
 |outgrown=>exact ⟨q0,rfl,he,this⟩
theorem zp {ω:Type}{X:ω→Exit×St}{q0 t:ω}{e:Exit}{N:List Nat}(σ:List (Nat×Nat))(hB: ∀ b p,c.β0 b=some p→mem b N=true)(h:some q0=some t)
 (he:(X q0).1=e:=by exact rfl) (hσ:okS σ=true:=by exact rfl) (hH:pickS σ σ H=some (X q0).2.H:=by exact rfl) (hT:Sub (X q0).2.T (mapT (reL σ) T):=by (repeat' first|exact True.intro|exact rfl|exact get_fn rfl (And.left (by assumption))|exact get_fnk rfl (And.left (by assumption))|exact get_fnk2 rfl (And.left (by assumption))|(refine get_fnx rfl ?_;(have hcc:=And.left (by assumption:AV.closedL _=true∧AV.onlyL [] _=true));simp only [Qk _ hcc,zz hcc])|apply And.intro)) (hM:okM σ M (X q0).2.M N=true:=by exact rfl):
 Fin c (Ex X c t) e ⟨T,H,M⟩:=by
 cases h
 exact fun a w hs=>⟨he,hs.to σ hσ hH hT hB hM⟩
theorem k_exit {id:Nat}{s:St}(h:Fin c Q (.exit id) s):Run c Q (.exit id) s:=Run_exit h
theorem k_retc {s:St}(h:Fin c Q .ret s):Run c Q .ret s:=Run_ret h
theorem k_skip {s:St}(h:Fin c Q .normal s):Run c Q .skip s:=Run_skip h
theorem k_block {id:Nat}{x:Code}{s:St}(h:Run c (Exit.inBlock id Q) x s):Run c Q (.block id x) s:=Run_block h
theorem zb {ρ:Type}{P:Program}{U:List (Nat×TI)}{hU:TabOk P U}{F:Nat→Prop}{β:Emb}{w0:World}{N:Nat}{fn:Func}{H':ρ→List (Nat×AObj)}{Nm mv:List Nat}{v r:ρ}{E:ρ→AV}{r':AV}(σ:List (Nat×Nat))
 (hN: ∀ b p,β b=some p→mem b Nm=true) (h:some v=some r) (hres:resAV U T H fn.results.toList=some r':=by exact rfl) (hr:r'.mapN (reL σ)=E v:=by exact rfl) (hσ:okS σ=true:=by exact rfl) (hH:pickS σ σ H=some (H' v):=by exact rfl) (hM:okM σ M mv Nm=true:=by exact rfl):
 Fin ⟨P,U,hU,F,β,w0,N,[]⟩ (bodyPost P fn (Rpost (fun x H'' M'=>x=E r∧H''=H' r∧M'=mv) F β w0)) .ret ⟨T,H,M⟩:=by
 cases h
 exact fun a w hs=>ret_x σ hN hres hσ hr hH hM hs
theorem l_addw {t t':TypeId}{x y:Operand}{k:IntKind}{m n:Int}(hnext:RunL c ops Q rest ⟨(d,.pl (.int k (k.wrap (m+n))))::T,H,M⟩)(hx:opv T x=some (.pl (.int k m)):=by exact rfl)(hy:opv T y=some (.pl (.int k n)):=by exact rfl)(hdo:dstOk c.N (some d)=true:=by exact rfl):RunL c ops Q (⟨some d,.binOp .add t x y t',ty,pos,af,none⟩::rest) ⟨T,H,M⟩:=RL_int hx hy (fun w'=>by simp [binOp,Op.intArith]) hdo hnext
theorem l_subw {t t':TypeId}{x y:Operand}{k:IntKind}{m n:Int}(hnext:RunL c ops Q rest ⟨(d,.pl (.int k (k.wrap (m-n))))::T,H,M⟩)(hx:opv T x=some (.pl (.int k m)):=by exact rfl)(hy:opv T y=some (.pl (.int k n)):=by exact rfl)(hdo:dstOk c.N (some d)=true:=by exact rfl):RunL c ops Q (⟨some d,.binOp .sub t x y t',ty,pos,af,none⟩::rest) ⟨T,H,M⟩:=RL_int hx hy (fun w'=>by simp [binOp,Op.intArith]) hdo hnext
theorem l_mulw {t t':TypeId}{x y:Operand}{k:IntKind}{m n:Int}(hnext:RunL c ops Q rest ⟨(d,.pl (.int k (k.wrap (m*n))))::T,H,M⟩)(hx:opv T x=some (.pl (.int k m)):=by exact rfl)(hy:opv T y=some (.pl (.int k n)):=by exact rfl)(hdo:dstOk c.N (some d)=true:=by exact rfl):RunL c ops Q (⟨some d,.binOp .mul t x y t',ty,pos,af,none⟩::rest) ⟨T,H,M⟩:=RL_int hx hy (fun w'=>by simp [binOp,Op.intArith]) hdo hnext
theorem zm {α ρ:Type}{P:Program}{g:Option α}{kk:α→Option ρ}{r:ρ}{E:α→AV}{cl:Call}{k:FuncId}{first cap es args:List AV}(h:g.bind kk=some r)(hs: ∀ v,g=some v→XSpec P k args [] (E v) [] [])(hn: ∀ v,g=some v→kk v=some r→RunL c ops Q rest ⟨(d,E v)::T,H,M⟩)
 (hP:c.P=P:=by exact rfl) (hk:calleeOf T cl.callee=some (k,first,cap):=by exact rfl) (ha:opvL T cl.args.toList=some es:=by exact rfl) (hargs:first++es++cap=args:=by exact rfl) (hcl:AV.closedL args=true:=by first|exact rfl|(simp only [AV.closedL,AV.closed,AV.onlyL,AV.only,Bool.true_and,Bool.and_true];first|exact And.left (by assumption)|exact And.right (by assumption))) (hdo:dstOk c.N (some d)=true:=by exact rfl):RunL c ops Q (⟨some d,.call cl,ty,pos,af,none⟩::rest) ⟨T,H,M⟩:=by
 obtain ⟨v,hv,h⟩:=bind_some h;exact RL_pcall (hs v hv).p hP hk ha hargs hcl hdo (hn v hv h)
theorem l_callB {α ρ:Type}{P:Program}{g:Option α}{kk:α→Option ρ}{r:ρ}{E:α→AV}{cl:Call}{k:FuncId}{first cap es args:List AV}(h:g.bind kk=some r)(hs: ∀ v,g=some v→XSpec P k args [] (E v) [] [])(hn: ∀ v,g=some v→kk v=some r→RunL c ops Q rest ⟨(d,E v)::T,H,M⟩)
 (hP:c.P=P:=by exact rfl) (hk:calleeOf T cl.callee=some (k,first,cap):=by exact rfl) (ha:opvL T cl.args.toList=some es:=by exact rfl) (hargs:AV.mapNL (brwW H) (first++es++cap)=args:=by exact rfl) (hr: ∀ v,(E v).flat=true:=by exact fun _=>rfl) (hdo:dstOk c.N (some d)=true:=by exact rfl):RunL c ops Q (⟨some d,.call cl,ty,pos,af,none⟩::rest) ⟨T,H,M⟩:=by
 obtain ⟨v,hv,h⟩:=bind_some h
 subst hP
 exact RL_callB (hs v hv).p hk ha hargs (hr v) hdo (hn v hv h)
theorem zi {α ρ:Type}{P:Program}{g:Option α}{kk:α→Option ρ}{r:ρ}{E:α→AV}{Hf H1 H2:List (Nat×AObj)}{H':α→List (Nat×AObj)}{mv mv':List Nat}{cl:Call}{k:FuncId}{first cap es args args0:List AV}(ws:List (Nat×Nat))(ns:List Nat)(h:g.bind kk=some r)(hs: ∀ v,g=some v→XSpec P k args Hf (E v) (H' v) mv)
 (hn: ∀ v,g=some v→kk v=some r→RunL c ops Q rest ⟨putT (kiT mv' T) (some d) ((E v).mapN (swL ws)),swH ws (H' v)++kiH mv' H2,mv'++M⟩) 
 (hmv:mv.map (swp ws)=mv':=by exact rfl) (hP:c.P=P:=by exact rfl) (hk:calleeOf T cl.callee=some (k,first,cap):=by exact rfl) (ha:opvL T cl.args.toList=some es:=by exact rfl) (ha0:first++es++cap=args0:=by exact rfl) (hargs:AV.mapNL (swL ws) args0=args:=by exact rfl) (hH1:hpick ns H=H1:=by exact rfl) (hHf:swH ws H1=Hf:=by exact rfl)
 (hok:honly ns H1=true:=by exact rfl) (hon:AV.onlyL ns args0=true:=by exact rfl) (hH2:hrest ns H=H2:=by exact rfl) (hap: ∀ v,hapart (swH ws (H' v)) H2=true:=by exact fun _=>rfl) (hdo:dstOk c.N (some d)=true:=by exact rfl) (hw:nodupB (swN ws)=true:=by exact rfl):RunL c ops Q (⟨some d,.call cl,ty,pos,af,none⟩::rest) ⟨T,H,M⟩:=by
 obtain ⟨v,hv,h⟩:=bind_some h
 subst hP hmv
 exact RL_callX ns  ((hs v hv).sw ws hw hargs hHf) hk ha ha0 hH1 hok hon hH2 (hap v) hdo (hn v hv h)
theorem QH {α ρ:Type}{l:List α}{e:α→List AV}{kk:α→Option ρ}{r:ρ}{t:TypeId}{x y:Operand}{k:IntKind}{i:Int}{ti ei:TI}{et:TypeId}(h:(at' l i).bind kk=some r)(hn: ∀ a,at' l i=some a→kk a=some r→RunL c ops Q rest ⟨(d,.vptr (e a))::T,H,M⟩)
 (ht:tget c.U t=some ti:=by exact rfl) (htd:ti.desc= .slice et:=by exact rfl) (he:tget c.U et=some ei:=by exact rfl) (hx:opv T x=some (.vs l.length (F e l)):=by exact rfl) (hy:opv T y=some (.pl (.int k i)):=by exact rfl) (hz: ∀ a,(e a).length=ei.size:=by exact fun _=>rfl) (hdo:dstOk c.N (some d)=true:=by exact rfl):RunL c ops Q (⟨some d,.indexAddr t x y,ty,pos,af,none⟩::rest) ⟨T,H,M⟩:=by
 obtain ⟨a,ha,h⟩:=bind_some h;obtain ⟨h0,hlt,hg⟩:=at'_some ha
 have hi:i.toNat<l.length:=by omega
 have hd:(F e l).drop (i.toNat*ei.size)=e a++F e (l.drop (i.toNat+1)):=by
  have:=flat_drop hz l i.toNat hi
  rw [List.getElem?_eq_getElem hi] at hg
  cases hg
  exact this
 exact RL_indexAddr_vsD ht htd he hx hy ⟨h0,hlt⟩ hd hdo fun a' w hs=>hn a ha h a' w (hs.weak1 (Le_vptr _ _))
theorem l_lens {t:TypeId}{x:Operand}{l:List UInt8}{ti:TI}(hnext:RunL c ops Q rest ⟨(d,I (l.length:Int))::T,H,M⟩)(ht:tget c.U t=some ti:=by exact rfl)(htd:ti.desc= .string:=by exact rfl)(hx:opv T x=some (S l):=by exact rfl)(hdo:dstOk c.N (some d)=true:=by exact rfl):RunL c ops Q (⟨some d,.call {callee:= .builtin .len,args:= #[x],argTypes:= #[t]},ty,pos,af,none⟩::rest) ⟨T,H,M⟩:=RL_len_str ht htd hx hdo hnext
theorem l_seq {t t':TypeId}{x y:Operand}{l m:List UInt8}(hnext:RunL c ops Q rest ⟨(d,B (l==m))::T,H,M⟩)(hx:opv T x=some (S l):=by exact rfl)(hy:opv T y=some (S m):=by exact rfl)(hdo:dstOk c.N (some d)=true:=by exact rfl):RunL c ops Q (⟨some d,.binOp .eql t x y t',ty,pos,af,none⟩::rest) ⟨T,H,M⟩:=RL_str hx hy (fun w'=>by simp [Op.stringOp,ByteArray.toList_eq]) hdo hnext
theorem l_sne {t t':TypeId}{x y:Operand}{l m:List UInt8}(hnext:RunL c ops Q rest ⟨(d,B (!(l==m)))::T,H,M⟩)(hx:opv T x=some (S l):=by exact rfl)(hy:opv T y=some (S m):=by exact rfl)(hdo:dstOk c.N (some d)=true:=by exact rfl):RunL c ops Q (⟨some d,.binOp .neq t x y t',ty,pos,af,none⟩::rest) ⟨T,H,M⟩:=RL_str hx hy (fun w'=>by simp [Op.stringOp,ByteArray.toList_eq]) hdo hnext
theorem l_slt {t t':TypeId}{x y:Operand}{l m:List UInt8}(hnext:RunL c ops Q rest ⟨(d,B (lt l m))::T,H,M⟩)(hx:opv T x=some (S l):=by exact rfl)(hy:opv T y=some (S m):=by exact rfl)(hdo:dstOk c.N (some d)=true:=by exact rfl):RunL c ops Q (⟨some d,.binOp .lss t x y t',ty,pos,af,none⟩::rest) ⟨T,H,M⟩:=RL_str hx hy (fun w'=>by simp [Op.stringOp,ByteArray.toList_eq,lt_eq]) hdo hnext
theorem l_sgt {t t':TypeId}{x y:Operand}{l m:List UInt8}(hnext:RunL c ops Q rest ⟨(d,B (!(lt l m||l==m)))::T,H,M⟩)(hx:opv T x=some (S l):=by exact rfl)(hy:opv T y=some (S m):=by exact rfl)(hdo:dstOk c.N (some d)=true:=by exact rfl):RunL c ops Q (⟨some d,.binOp .gtr t x y t',ty,pos,af,none⟩::rest) ⟨T,H,M⟩:=RL_str hx hy (fun w'=>by simp [Op.stringOp,ByteArray.toList_eq,lt_eq]) hdo hnext
theorem l_cat {ρ:Type}{kk:List UInt8→Option ρ}{r:ρ}{t t':TypeId}{x y:Operand}{l m:List UInt8}(h:(cat l m).bind kk=some r)(hn: ∀ v,cat l m=some v→kk v=some r→RunL c ops Q rest ⟨(d,S v)::T,H,M⟩)(hx:opv T x=some (S l):=by exact rfl)(hy:opv T y=some (S m):=by exact rfl)(hdo:dstOk c.N (some d)=true:=by exact rfl):RunL c ops Q (⟨some d,.binOp .add t x y t',ty,pos,af,none⟩::rest) ⟨T,H,M⟩:=by
 obtain ⟨v,hv,h⟩:=bind_some h
 have h2:=hn v hv h
 obtain ⟨hl,rfl⟩:=cat_some hv;exact RL_str hx hy (fun _=>run_cat hl) hdo h2
theorem Qz {ρ:Type}{kk:UInt8→Option ρ}{r:ρ}{t:TypeId}{x y:Operand}{l:List UInt8}{k:IntKind}{i:Int}{ti:TI}(h:(at' l i).bind kk=some r)(hn: ∀ a,at' l i=some a→kk a=some r→RunL c ops Q rest ⟨(d,U a)::T,H,M⟩)(ht:tget c.U t=some ti:=by exact rfl)(htd:ti.desc= .string:=by exact rfl)(hx:opv T x=some (S l):=by exact rfl)(hy:opv T y=some (.pl (.int k i)):=by exact rfl)(hdo:dstOk c.N (some d)=true:=by exact rfl):RunL c ops Q (⟨some d,.index t x y,ty,pos,af,none⟩::rest) ⟨T,H,M⟩:=by
 obtain ⟨a,ha,h⟩:=bind_some h
 have h2:=hn a ha h
 obtain ⟨h0,hlt,hg⟩:=at'_some ha
 have hi:((i.toNat:Nat):Int)=i:=Int.toNat_of_nonneg h0
 have hb:i.toNat<(ByteArray.mk l.toArray).size:=by show i.toNat<l.length;omega
 rw [←hi] at hy
 have e:(ByteArray.mk l.toArray)[i.toNat]'hb=a:=by
  rw [List.getElem?_eq_getElem (by exact hb)] at hg
  cases hg;rfl
 exact RL_index_str ht htd hx hy hb hdo (by rw [e];exact h2)
theorem Zr {ρ:Type}{kk:List UInt8→Option ρ}{r:ρ}{t:TypeId}{x:Operand}{lo hi:Option Operand}{l:List UInt8}{i j:Int}{ti:TI}(h:(sub' l i j).bind kk=some r)(hn: ∀ v,sub' l i j=some v→kk v=some r→RunL c ops Q rest ⟨(d,S v)::T,H,M⟩)(ht:tget c.U t=some ti:=by exact rfl)(htd:ti.desc= .string:=by exact rfl)(hx:opv T x=some (S l):=by exact rfl)(hlo:bnd T 0 lo=some i:=by exact rfl)(hhi:bnd T (l.length:Int) hi=some j:=by exact rfl)(hdo:dstOk c.N (some d)=true:=by exact rfl):RunL c ops Q (⟨some d,.slice t x lo hi none,ty,pos,af,none⟩::rest) ⟨T,H,M⟩:=by
 obtain ⟨v,hv,h⟩:=bind_some h
 have h2:=hn v hv h
 obtain ⟨h0,h1,h3,rfl⟩:=sub'_some hv
 have hi':((i.toNat:Nat):Int)=i:=Int.toNat_of_nonneg h0
 have hj':((j.toNat:Nat):Int)=j:=Int.toNat_of_nonneg (by omega)
 rw [←hi'] at hlo
 rw [←hj'] at hhi
 have e:(ByteArray.mk l.toArray).extract i.toNat j.toNat=⟨((l.drop i.toNat).take (j.toNat-i.toNat)).toArray⟩:=by apply ByteArray.ext;simp
 unfold S at h2
 rw [←e] at h2
 exact qi (s:=⟨T,H,M⟩) (q_slice_str ht htd hx hlo hhi (by omega) (by show j.toNat≤l.length;omega)) rfl hdo h2
theorem l_convU {src dst:TypeId}{x:Operand}{k:IntKind}{n:Int}{t1 t2:TI}(hnext:RunL c ops Q rest ⟨(d,U (u8 n))::T,H,M⟩)(h1:tget c.U src=some t1:=by exact rfl)(h2:tget c.U dst=some t2:=by exact rfl)(hk:t2.desc= .int .u8:=by exact rfl)(hx:opv T x=some (.pl (.int k n)):=by exact rfl)(hdo:dstOk c.N (some d)=true:=by exact rfl):RunL c ops Q (⟨some d,.convert src dst x,ty,pos,af,none⟩::rest) ⟨T,H,M⟩:=RL_conv_int h1 h2 hk hx hdo (by rw [wrap_u8_eq];exact hnext)
theorem l_addU {t t':TypeId}{x y:Operand}(a b:UInt8)(hnext:RunL c ops Q rest ⟨(d,U (a+b))::T,H,M⟩)(hx:opv T x=some (U a):=by exact rfl)(hy:opv T y=some (U b):=by exact rfl)(hdo:dstOk c.N (some d)=true:=by exact rfl):RunL c ops Q (⟨some d,.binOp .add t x y t',ty,pos,af,none⟩::rest) ⟨T,H,M⟩:=l_addw (by rw [add_u8_eq];exact hnext) hx hy hdo
theorem l_subU {t t':TypeId}{x y:Operand}(a b:UInt8)(hnext:RunL c ops Q rest ⟨(d,U (a-b))::T,H,M⟩)(hx:opv T x=some (U a):=by exact rfl)(hy:opv T y=some (U b):=by exact rfl)(hdo:dstOk c.N (some d)=true:=by exact rfl):RunL c ops Q (⟨some d,.binOp .sub t x y t',ty,pos,af,none⟩::rest) ⟨T,H,M⟩:=l_subw (by rw [sub_u8_eq];exact hnext) hx hy hdo
theorem l_bstr {src dst:TypeId}{x:Operand}{l:List UInt8}{t1 t2 ei:TI}{e:TypeId}(hnext:RunL c ops Q rest ⟨(d,S l)::T,H,M⟩)(h1:tget c.U src=some t1:=by exact rfl)(hd1:t1.desc= .slice e:=by exact rfl)(he:tget c.U e=some ei:=by exact rfl)(hek:ei.desc= .int .u8:=by exact rfl)(h2:tget c.U dst=some t2:=by exact rfl)(hd2:t2.desc= .string:=by exact rfl)(hx:opv T x=some (.vs l.length (F cU l)):=by exact rfl)(hdo:dstOk c.N (some d)=true:=by exact rfl):RunL c ops Q (⟨some d,.convert src dst x,ty,pos,af,none⟩::rest) ⟨T,H,M⟩:=RL_conv_bytes h1 hd1 he hek h2 hd2 hx rfl (F_cU l) rfl hdo hnext
theorem l_bstro {te:TypeId}{src dst:TypeId}{x:Operand}{l:List UInt8}{b fz:Nat}{t1 t2 ei:TI}{e:TypeId}(hnext:RunL c ops Q rest ⟨(d,S l)::T,H,M⟩)(h1:tget c.U src=some t1:=by exact rfl)(hd1:t1.desc= .slice e:=by exact rfl)(he:tget c.U e=some ei:=by exact rfl)(hek:ei.desc= .int .u8:=by exact rfl)(h2:tget c.U dst=some t2:=by exact rfl)(hd2:t2.desc= .string:=by exact rfl)(hx:opv T x=some (.sl b 0 l.length):=by exact rfl)(hb:hget H b=some (.row te 1 fz (F cU l)):=by exact rfl)(hdo:dstOk c.N (some d)=true:=by exact rfl):RunL c ops Q (⟨some d,.convert src dst x,ty,pos,af,none⟩::rest) ⟨T,H,M⟩:=
 RL_conv_bytes h1 hd1 he hek h2 hd2 hx (show srcAt H 1 (.sl b 0 l.length)=some (l.length,encB l) by simp only [srcAt,hb,List.drop_zero];rw [List.take_of_length_le (by rw [F_cU,encB_length];omega),F_cU]) rfl rfl hdo hnext
theorem l_subf {α ρ:Type}{kk:List α→Option ρ}{r:ρ}{t:TypeId}{x:Operand}{lo hi:Option Operand}{l:List α}{e:α→List AV}{i j:Int}{ti ei:TI}{et:TypeId}(h:(sub' l i j).bind kk=some r)(hn: ∀ v,sub' l i j=some v→kk v=some r→RunL c ops Q rest ⟨(d,.vs v.length (F e v))::T,H,M⟩)(ht:tget c.U t=some ti:=by exact rfl)(htd:ti.desc= .slice et:=by exact rfl)(he:tget c.U et=some ei:=by exact rfl)(hx:opv T x=some (.vs l.length (F e l)):=by exact rfl)(hlo:bnd T 0 lo=some i:=by exact rfl)(hhi:bnd T (l.length:Int) hi=some j:=by exact rfl)(hz: ∀ a,(e a).length=ei.size:=by exact fun _=>rfl)(hdo:dstOk c.N (some d)=true:=by exact rfl):RunL c ops Q (⟨some d,.slice t x lo hi none,ty,pos,af,none⟩::rest) ⟨T,H,M⟩:=by
 obtain ⟨v,hv,h⟩:=bind_some h
 have h2:=hn v hv h
 obtain ⟨h0,h1,h3,rfl⟩:=sub'_some hv
 have hi':((i.toNat:Nat):Int)=i:=Int.toNat_of_nonneg h0
 have hj':((j.toNat:Nat):Int)=j:=Int.toNat_of_nonneg (by omega)
 rw [←hi'] at hlo
 rw [←hj'] at hhi
 have el:((l.drop i.toNat).take (j.toNat-i.toNat)).length=j.toNat-i.toNat:=by rw [List.length_take,List.length_drop];omega
 rw [el] at h2
 exact RL_slice_vs ht htd he hx hlo hhi (by omega) (by omega) (F_sub hz l _ _) hdo h2
theorem Jg {te:TypeId}{α ρ:Type}{l:List α}{e:α→List AV}{kk:α→Option ρ}{r:ρ}{b fz sz:Nat}{t:TypeId}{x y:Operand}{k:IntKind}{i:Int}{ti ei:TI}{et:TypeId}(h:(at' l i).bind kk=some r)(hn: ∀ a,at' l i=some a→kk a=some r→RunL c ops Q rest ⟨(d,.ptr b (i.toNat*sz))::T,H,M⟩)
 (ht:tget c.U t=some ti:=by exact rfl) (htd:ti.desc= .slice et:=by exact rfl) (he:tget c.U et=some ei:=by exact rfl) (hsz:ei.size=sz:=by exact rfl) (hx:opv T x=some (.sl b 0 l.length):=by exact rfl) (hb:hget H b=some (.row te sz fz (F e l)):=by exact rfl) (hy:opv T y=some (.pl (.int k i)):=by exact rfl) (hdo:dstOk c.N (some d)=true:=by exact rfl):RunL c ops Q (⟨some d,.indexAddr t x y,ty,pos,af,none⟩::rest) ⟨T,H,M⟩:=by
 obtain ⟨a,ha,h⟩:=bind_some h;obtain ⟨h0,hlt,hg⟩:=at'_some ha
 have hi:((i.toNat:Nat):Int)=i:=Int.toNat_of_nonneg h0
 rw [←hi] at hy
 subst hsz
 exact qi (s:=⟨T,H,M⟩) (q_indexAddr_sl0 ht htd he hx hy (by omega)) rfl hdo (hn a ha h)
theorem l_ldra {te:TypeId}{α:Type}{l:List α}{e:α→List AV}{a:α}{b fz sz:Nat}{i:Int}{t:TypeId}{x:Operand}{ti:TI}(ha:at' l i=some a)(hnext:RunL c ops Q rest ⟨(d,.agg (e a))::T,H,M⟩)(ht:tget c.U t=some ti:=by exact rfl)(hag:aggD ti.desc=true:=by exact rfl)(hx:opv T x=some (.ptr b (i.toNat*sz)):=by exact rfl)(hb:hget H b=some (.row te sz fz (F e l)):=by exact rfl)(hsz:ti.size=sz:=by exact rfl)(hz: ∀ a,(e a).length=sz:=by exact fun _=>rfl)(hdo:dstOk c.N (some d)=true:=by exact rfl):RunL c ops Q (⟨some d,.load t x,ty,pos,af,none⟩::rest) ⟨T,H,M⟩:=
 RL_load_agg ht hag hx (show memAt H (.ptr b (i.toNat*sz))=some ((F e l).drop (i.toNat*sz)) by simp only [memAt,hb]) (by rw [hsz];exact F_take hz ha) (by rw [hsz];exact hz a) hdo hnext
theorem QM {α:Type}{e:α→List AV}(l:List α){t:TypeId}{n:Nat}{parts:Array (Nat×Operand)}{axs:List AV}{ti ei:TI}{et k:Nat}(hnext:RunL c ops Q rest ⟨(d,.sl (nm (some d)) 0 l.length)::T,(nm (some d),.row et k 0 (F e l))::H,M⟩)(ht:tget c.U t=some ti:=by exact rfl)(htd:ti.desc= .slice et:=by exact rfl)(he:tget c.U et=some ei:=by exact rfl)(hk:ei.size=k:=by exact rfl)(hk0:Nat.blt 0 k=true:=by exact rfl)(hzs:ei.zero.cells.size=k:=by exact rfl)(hparts:seqB 0 parts.toList=true:=by exact rfl)(hn:parts.toList.length=n:=by exact rfl)(hn0:Nat.blt 0 n=true:=by exact rfl)(hx:opvL T (parts.toList.map (·.2))=some axs:=by exact rfl)(hfit:fitAll k axs=true:=by exact rfl)(hcs:cellsL axs=F e l:=by exact rfl)(hl:l.length=n:=by exact rfl)(hlim:Nat.ble (n*k) (2^24)=true:=by exact rfl)(hb:hget H (nm (some d))=none:=by exact rfl)(hdo:dstOk c.N (some d)=true:=by exact rfl):RunL c ops Q (⟨some d,.buildSlice t n parts,ty,pos,af,none⟩::rest) ⟨T,H,M⟩:=
 RL_buildSliceN ht htd he hk hk0 hzs hparts hn hn0 hx hfit hcs hlim hb hdo (by rw [←hl];exact hnext)
theorem l_appf {α ρ:Type}{e:α→List AV}{kk:List α→Option ρ}{r:ρ}{l m:List α}{sz b k:Nat}{t:TypeId}{x y:Operand}{ti ei:TI}{et:TypeId}(h:(app sz l m).bind kk=some r)(hn: ∀ v,app sz l m=some v→kk v=some r→RunL c ops Q rest ⟨(d,.sl b 0 v.length)::killT b T,(b,.row et k 0 (F e v))::killH b H,b::M⟩)  (ht:tget c.U t=some ti:=by exact rfl)(htd:ti.desc= .slice et:=by exact rfl)(he:tget c.U et=some ei:=by exact rfl)(hk:ei.size=k:=by exact rfl)(hzs:ei.zero.cells.size=k:=by exact rfl)(hbb:ei.bytes=sz:=by exact rfl)(hbp:Nat.blt 0 sz=true:=by exact rfl)(hx:opv T x=some (.sl b 0 l.length):=by exact rfl)(hb:hget H b=some (.row et k 0 (F e l)):=by exact rfl)(hy:opv T y=some (.vs m.length (F e m)):=by exact rfl)(hz: ∀ a,(e a).length=k:=by exact fun _=>rfl)(hdo:dstOk c.N (some d)=true:=by exact rfl):RunL c ops Q (⟨some d,.call {callee:= .builtin .append,args:= #[x,y],argTypes:= #[t,t]},ty,pos,af,none⟩::rest) ⟨T,H,M⟩:=by
 obtain ⟨v,hv,h⟩:=bind_some h
 have h2:=hn v hv h
 obtain ⟨hl,rfl⟩:=app_some hv
 subst hbb
 have hbp:0<ei.bytes:=by simpa [Nat.blt_eq] using hbp
 rw [List.length_append,F_app hz] at h2
 exact RL_append ht htd he hk hzs hbp hx hb (by rw [Qv hz];omega) (Nat.zero_le _) hy rfl (Qv hz m) hl hdo  h2
theorem Q9 {te':TypeId}{α ρ:Type}{e:α→List AV}{kk:List α→Option ρ}{r:ρ}{l m:List α}{sz b b' k fz':Nat}{t:TypeId}{x y:Operand}{ti ei:TI}{et:TypeId}(h:(app sz l m).bind kk=some r)(hn: ∀ v,app sz l m=some v→kk v=some r→RunL c ops Q rest ⟨(d,.sl b 0 v.length)::killT b T,(b,.row et k 0 (F e v))::killH b H,b::M⟩)  (ht:tget c.U t=some ti:=by exact rfl)(htd:ti.desc= .slice et:=by exact rfl)(he:tget c.U et=some ei:=by exact rfl)(hk:ei.size=k:=by exact rfl)(hzs:ei.zero.cells.size=k:=by exact rfl)(hbb:ei.bytes=sz:=by exact rfl)(hbp:Nat.blt 0 sz=true:=by exact rfl)(hx:opv T x=some (.sl b 0 l.length):=by exact rfl)(hb:hget H b=some (.row et k 0 (F e l)):=by exact rfl)(hy:opv T y=some (.sl b' 0 m.length):=by exact rfl)(hb':hget H b'=some (.row te' k fz' (F e m)):=by exact rfl)(hz: ∀ a,(e a).length=k:=by exact fun _=>rfl)(hdo:dstOk c.N (some d)=true:=by exact rfl):RunL c ops Q (⟨some d,.call {callee:= .builtin .append,args:= #[x,y],argTypes:= #[t,t]},ty,pos,af,none⟩::rest) ⟨T,H,M⟩:=by
 obtain ⟨v,hv,h⟩:=bind_some h
 have h2:=hn v hv h
 obtain ⟨hl,rfl⟩:=app_some hv
 subst hbb
 have hbp:0<ei.bytes:=by simpa [Nat.blt_eq] using hbp
 rw [List.length_append,F_app hz] at h2
 exact RL_append ht htd he hk hzs hbp hx hb (by rw [Qv hz];omega) (Nat.zero_le _) hy (show srcAt H k (.sl b' 0 m.length)=some (m.length,F e m) by simp only [srcAt,hb',List.drop_zero];rw [List.take_of_length_le (by rw [Qv hz];omega)]) (Qv hz m) hl hdo  h2
theorem l_apps {ρ:Type}{kk:Str→Option ρ}{r:ρ}{l m:Str}{sz b:Nat}{t t2:TypeId}{x y:Operand}{ti ti2 ei:TI}{et:TypeId}(h:(app sz l m).bind kk=some r)(hn: ∀ v,app sz l m=some v→kk v=some r→RunL c ops Q rest ⟨(d,.sl b 0 v.length)::killT b T,(b,.row et 1 0 (F cU v))::killH b H,b::M⟩)  (ht:tget c.U t=some ti:=by exact rfl)(htd:ti.desc= .slice et:=by exact rfl)(ht2:tget c.U t2=some ti2:=by exact rfl)(ht2d:ti2.desc= .string:=by exact rfl)(he:tget c.U et=some ei:=by exact rfl)(hk:ei.size=1:=by exact rfl)(hzs:ei.zero.cells.size=1:=by exact rfl)(hbb:ei.bytes=sz:=by exact rfl)(hbp:Nat.blt 0 sz=true:=by exact rfl)(hx:opv T x=some (.sl b 0 l.length):=by exact rfl)(hb:hget H b=some (.row et 1 0 (F cU l)):=by exact rfl)(hy:opv T y=some (S m):=by exact rfl)(hdo:dstOk c.N (some d)=true:=by exact rfl):RunL c ops Q (⟨some d,.call {callee:= .builtin .append,args:= #[x,y],argTypes:= #[t,t2]},ty,pos,af,none⟩::rest) ⟨T,H,M⟩:=by
 obtain ⟨v,hv,h⟩:=bind_some h
 have h2:=hn v hv h
 obtain ⟨hl,rfl⟩:=app_some hv
 subst hbb
 have hbp:0<ei.bytes:=by simpa [Nat.blt_eq] using hbp
 have e1: ∀ q:Str,F cU q=q.map fun u=>AV.pl (.int .u8 (u.toNat:Int)):=fun q=>by
  induction q with
  |nil=>rfl
  |cons a v ih=>rw [List.map_cons,←ih];rfl
 have e2:putT (killT b T) (some d) (.sl b 0 (l.length+(⟨m.toArray⟩:ByteArray).size))=(d,.sl b 0 (l++m).length)::killT b T:=by rw [List.length_append];rfl
 have e3:((F cU l).drop 0).take (l.length*1)++((⟨m.toArray⟩:ByteArray).data.toList.map fun u=>AV.pl (.int .u8 (u.toNat:Int)))=F cU (l++m):=by
  rw [e1,e1,List.drop_zero,List.take_of_length_le (by simp),List.map_append]
 have hE:=e_appendS (c:=c) (s:=⟨T,H,M⟩) (d:=some d) (ty:=ty) (pos:=pos) (af:=af) (g:=none) (n:=l.length) ht htd ht2 ht2d he hk hzs hbp hx hb (by rw [e1];simp) (Nat.zero_le _) hy hl hdo
 rw [e2,e3] at hE
 exact Jd (s:=⟨T,H,M⟩) hE rfl h2
theorem l_nat {r:AV}{cl:Call}{k:FuncId}{first cap es args:List AV}{P:Program}(hs:NSpec P k args r)(hnext:RunL c ops Q rest ⟨(d,r)::T,H,M⟩)(hP:c.P=P:=by exact rfl)(hk:calleeOf T cl.callee=some (k,first,cap):=by exact rfl)(ha:opvL T cl.args.toList=some es:=by exact rfl)(hargs:first++es++cap=args:=by exact rfl)(hdo:dstOk c.N (some d)=true:=by exact rfl):RunL c ops Q (⟨some d,.call cl,ty,pos,af,none⟩::rest) ⟨T,H,M⟩:=by
 subst hP hargs
 exact qi (s:=⟨T,H,M⟩) (q_native hs hk ha) rfl hdo hnext
theorem l_callF {α ρ:Type}{P:Program}{g:Option α}{kk:α→Option ρ}{r:ρ}{E:α→AV}{cl:Call}{k:FuncId}{cap es args:List AV}(hc:AV.closedL cap=true∧AV.onlyL [] cap=true)(h:g.bind kk=some r)(hs: ∀ v,g=some v→XSpec P k args [] (E v) [] [])(hn: ∀ v,g=some v→kk v=some r→RunL c ops Q rest ⟨(d,E v)::T,H,M⟩)
 (hP:c.P=P:=by exact rfl) (hk:calleeOf T cl.callee=some (k,[],cap):=by exact rfl) (ha:opvL T cl.args.toList=some es:=by exact rfl) (hargs:[]++es++cap=args:=by exact rfl) (hcl:AV.closedL es=true:=by exact rfl) (hdo:dstOk c.N (some d)=true:=by exact rfl):RunL c ops Q (⟨some d,.call cl,ty,pos,af,none⟩::rest) ⟨T,H,M⟩:=by
 obtain ⟨v,hv,h⟩:=bind_some h
 subst hargs
 exact RL_pcall (hs v hv).p hP hk ha rfl (by rw [List.nil_append];exact closedL_app hcl hc.1) hdo (hn v hv h)
theorem l_min2 {x y:Operand}{argTs:Array TypeId}{k:IntKind}{m n:Int}(hnext:RunL c ops Q rest ⟨(d,.pl (.int k (mn m n)))::T,H,M⟩)(hx:opv T x=some (.pl (.int k m)):=by exact rfl)(hy:opv T y=some (.pl (.int k n)):=by exact rfl)(hdo:dstOk c.N (some d)=true:=by exact rfl):RunL c ops Q (⟨some d,.call {callee:= .builtin .min,args:= #[x,y],argTypes:=argTs},ty,pos,af,none⟩::rest) ⟨T,H,M⟩:=qi (s:=⟨T,H,M⟩) (q_min2 hx hy) rfl hdo hnext
theorem l_quoC {t t':TypeId}{x y:Operand}{k:IntKind}{m n:Int}(hnext:RunL c ops Q rest ⟨(d,.pl (.int k (k.wrap (m.tdiv n))))::T,H,M⟩)(hx:opv T x=some (.pl (.int k m)):=by exact rfl)(hy:opv T y=some (.pl (.int k n)):=by exact rfl)(hn:(n==0)=false:=by exact rfl)(hdo:dstOk c.N (some d)=true:=by exact rfl):RunL c ops Q (⟨some d,.binOp .quo t x y t',ty,pos,af,none⟩::rest) ⟨T,H,M⟩:=qi (s:=⟨T,H,M⟩) (q_quo hx hy hn) rfl hdo hnext
theorem l_remC {t t':TypeId}{x y:Operand}{k:IntKind}{m n:Int}(hnext:RunL c ops Q rest ⟨(d,.pl (.int k (m.tmod n)))::T,H,M⟩)(hx:opv T x=some (.pl (.int k m)):=by exact rfl)(hy:opv T y=some (.pl (.int k n)):=by exact rfl)(hn:(n==0)=false:=by exact rfl)(hdo:dstOk c.N (some d)=true:=by exact rfl):RunL c ops Q (⟨some d,.binOp .rem t x y t',ty,pos,af,none⟩::rest) ⟨T,H,M⟩:=qi (s:=⟨T,H,M⟩) (q_rem hx hy hn) rfl hdo hnext
theorem l_range {t:TypeId}{x:Operand}{l:List UInt8}{ti:TI}(hnext:RunL c ops Q rest ⟨(d,.it (nm (some d)))::T,(nm (some d),.siter ⟨l.toArray⟩ 0)::H,M⟩)(ht:tget c.U t=some ti:=by exact rfl)(htd:ti.desc= .string:=by exact rfl)(hx:opv T x=some (S l):=by exact rfl)(hb:hget H (nm (some d))=none:=by exact rfl)(hdo:dstOk c.N (some d)=true:=by exact rfl):RunL c ops Q (⟨some d,.range t x,ty,pos,af,none⟩::rest) ⟨T,H,M⟩:=Jd (s:=⟨T,H,M⟩) (e_range ht htd hx hb hdo).e rfl hnext
theorem l_strb {src dst e:TypeId}{x:Operand}{l:List UInt8}{t1 t2 ei:TI}(hnext:RunL c ops Q rest ⟨(d,.sl (nm (some d)) 0 l.length)::T,(nm (some d),.row e 1 0 (F cU l))::H,M⟩)(h1:tget c.U src=some t1:=by exact rfl)(hd1:t1.desc= .string:=by exact rfl)(h2:tget c.U dst=some t2:=by exact rfl)(hd2:t2.desc= .slice e:=by exact rfl)(he:tget c.U e=some ei:=by exact rfl)(hek:ei.desc= .int .u8:=by exact rfl)(hx:opv T x=some (S l):=by exact rfl)(hb:hget H (nm (some d))=none:=by exact rfl)(hdo:dstOk c.N (some d)=true:=by exact rfl)(hview:GTab.view e=true:=by exact rfl):RunL c ops Q (⟨some d,.convert src dst x,ty,pos,af,none⟩::rest) ⟨T,H,M⟩:=by
 rw [F_cU] at hnext
 exact Jd (s:=⟨T,H,M⟩) (e_strb h1 hd1 h2 hd2 he hek hx hb hdo hview).e rfl hnext
theorem Jc {te:TypeId}{α:Type}{l:List α}{e:α→List AV}{a:α}{b fz sz:Nat}{i:Int}{t:TypeId}{x:Operand}{ay:AV}{ti:TI}(ha:at' l i=some a)(hnext:RunL c ops Q rest ⟨(d,ay)::T,H,M⟩)(ht:tget c.U t=some ti:=by exact rfl)(hag:aggD ti.desc=false:=by exact rfl)(hx:opv T x=some (.ptr b (i.toNat*sz)):=by exact rfl)(hb:hget H b=some (.row te sz fz (F e l)):=by exact rfl)(hz: ∀ a,(e a).length=sz:=by exact fun _=>rfl)(hc:(e a)[0]? =some ay:=by exact rfl)(hdo:dstOk c.N (some d)=true:=by exact rfl):RunL c ops Q (⟨some d,.load t x,ty,pos,af,none⟩::rest) ⟨T,H,M⟩:=
 RL_load ht hag hx (show memAt H (.ptr b (i.toNat*sz))=some ((F e l).drop (i.toNat*sz)) by simp only [memAt,hb]) (F_head (o:=0) hz ha hc) hdo hnext
theorem l_pnil {op:BinOp}{t t':TypeId}{x:Operand}{cs:List AV}{z r:Bool}{ti:TI}{et:TypeId}(hnext:RunL c ops Q rest ⟨(d,B r)::T,H,M⟩)(ht:tget c.U t=some ti:=by exact rfl)(htd:ti.desc= .pointer et:=by exact rfl)(hx:opv T x=some (.optr z cs):=by exact rfl)(hop:(op= .eql∧r=z)∨(op= .neq∧r= !z):=by first|exact Or.inl ⟨rfl,rfl⟩|exact Or.inr ⟨rfl,rfl⟩)(hdo:dstOk c.N (some d)=true:=by exact rfl):RunL c ops Q (⟨some d,.binOp op t x (.const (.pointer none)) t',ty,pos,af,none⟩::rest) ⟨T,H,M⟩:=qi (s:=⟨T,H,M⟩) (q_ptrnil ht htd hx (.inl ⟨_,rfl⟩) hop) rfl hdo hnext
theorem l_pnilp {op:BinOp}{t t':TypeId}{x:Operand}{b o:Nat}{z r:Bool}{ti:TI}{et:TypeId}(hnext:RunL c ops Q rest ⟨(d,B r)::T,H,M⟩)(ht:tget c.U t=some ti:=by exact rfl)(htd:ti.desc= .pointer et:=by exact rfl)(hx:opv T x=some (.nptr z b o):=by exact rfl)(hop:(op= .eql∧r=z)∨(op= .neq∧r= !z):=by first|exact Or.inl ⟨rfl,rfl⟩|exact Or.inr ⟨rfl,rfl⟩)(hdo:dstOk c.N (some d)=true:=by exact rfl):RunL c ops Q (⟨some d,.binOp op t x (.const (.pointer none)) t',ty,pos,af,none⟩::rest) ⟨T,H,M⟩:=qi (s:=⟨T,H,M⟩) (q_ptrnil ht htd hx (.inr (.inl ⟨_,_,rfl⟩)) hop) rfl hdo hnext
theorem l_deref {α ρ:Type}{p:Option α}{e:α→List AV}{kk:α→Option ρ}{r:ρ}{x:Operand}(h:p.bind kk=some r)(hn: ∀ v,p=some v→kk v=some r→RunL c ops Q rest ⟨(d,.vptr (e v))::T,H,M⟩)(hx:opv T x=some (oP e p):=by exact rfl)(hdo:dstOk c.N (some d)=true:=by exact rfl):RunL c ops Q (⟨some d,.nilCheck x,ty,pos,af,none⟩::rest) ⟨T,H,M⟩:=by
 obtain ⟨v,hv,h⟩:=bind_some h
 have hx':opv T x=some (.vptr (e v)):=by rw [hx,hv];rfl
 exact qi (s:=⟨T,H,M⟩) (q_nilCheck hx' rfl) rfl hdo (hn v hv h)
theorem QI {t t':TypeId}{x y:Operand}{k k':IntKind}{m n r:Int}(hnext:RunL c ops Q rest ⟨(d,.pl (.int k r))::T,H,M⟩)(hx:opv T x=some (.pl (.int k m)):=by exact rfl)(hy:opv T y=some (.pl (.int k' n)):=by exact rfl)(hr:W.shr k.bits m n=some r:=by exact rfl)(hdo:dstOk c.N (some d)=true:=by exact rfl):RunL c ops Q (⟨some d,.binOp .shr t x y t',ty,pos,af,none⟩::rest) ⟨T,H,M⟩:=qi (s:=⟨T,H,M⟩) (q_shr hx hy hr) rfl hdo hnext
theorem l_shlC {t t':TypeId}{x y:Operand}{k k':IntKind}{m n r:Int}(hnext:RunL c ops Q rest ⟨(d,.pl (.int k (k.wrap r)))::T,H,M⟩)(hx:opv T x=some (.pl (.int k m)):=by exact rfl)(hy:opv T y=some (.pl (.int k' n)):=by exact rfl)(hr:W.shl k.bits m n=some r:=by exact rfl)(hdo:dstOk c.N (some d)=true:=by exact rfl):RunL c ops Q (⟨some d,.binOp .shl t x y t',ty,pos,af,none⟩::rest) ⟨T,H,M⟩:=qi (s:=⟨T,H,M⟩) (q_shl hx hy hr) rfl hdo hnext
theorem l_bits {op:BinOp}{t t':TypeId}{x y:Operand}{k:IntKind}{m n r:Int}(hnext:RunL c ops Q rest ⟨(d,.pl (.int k (k.wrap r)))::T,H,M⟩)(hx:opv T x=some (.pl (.int k m)):=by exact rfl)(hy:opv T y=some (.pl (.int k n)):=by exact rfl)(hr:bitsOf op k.bits m n=some r:=by exact rfl)(hdo:dstOk c.N (some d)=true:=by exact rfl):RunL c ops Q (⟨some d,.binOp op t x y t',ty,pos,af,none⟩::rest) ⟨T,H,M⟩:=qi (s:=⟨T,H,M⟩) (q_bits hx hy hr) rfl hdo hnext
theorem l_subp {te:TypeId}{ρ:Type}{kk:Unit→Option ρ}{r:ρ}{t:TypeId}{x:Operand}{hi:Option Operand}{b n k fz:Nat}{j:Int}{cs:List AV}{ti ei:TI}{et:TypeId}(h:(rng (n:Int) 0 j).bind kk=some r)(hn:kk ()=some r→RunL c ops Q rest ⟨(d,.sl b 0 j.toNat)::T,H,M⟩)(ht:tget c.U t=some ti:=by exact rfl)(htd:ti.desc= .slice et:=by exact rfl)(he:tget c.U et=some ei:=by exact rfl)(hx:opv T x=some (.sl b 0 n):=by exact rfl)(hb:hget H b=some (.row te k fz cs):=by exact rfl)(hk:ei.size=k:=by exact rfl)(hhi:bnd T (n:Int) hi=some j:=by exact rfl)(hdo:dstOk c.N (some d)=true:=by exact rfl):RunL c ops Q (⟨some d,.slice t x none hi none,ty,pos,af,none⟩::rest) ⟨T,H,M⟩:=by
 obtain ⟨u,hv,h⟩:=bind_some h;obtain ⟨h1,h2,h3⟩:=rng_some hv;exact qi (s:=⟨T,H,M⟩) (q_slice_part ht htd he hx hb hk (l:=0) (h:=j.toNat) rfl (by rw [hhi];congr 1;omega) (by omega) (by omega) (by rw [Nat.zero_mul])) rfl hdo (hn h)
theorem l_put {te:TypeId}{α ρ:Type}{l:List α}{e:α→List AV}{a a':α}{kk:List α→Option ρ}{r:ρ}{t:TypeId}{x y:Operand}{ay:AV}{es:List AV}{b o sz:Nat}{i:Int}{ti:TI}(ha:at' l i=some a)(h:(put l i a').bind kk=some r)(hn: ∀ v,v.length=l.length→kk v=some r→RunL c ops Q rest ⟨T,hset H b (.row te sz 0 (F e v)),M⟩)  (ht:tget c.U t=some ti:=by exact rfl)(hx:opv T x=some (.ptr b (i.toNat*sz+o)):=by exact rfl)(hy:opv T y=some ay:=by exact rfl)(hes:cellsA ay=es:=by exact rfl)(hf:fit ay=true:=by exact rfl)(hl:es.length=ti.size:=by exact rfl)(hcl:AV.closedL es=true:=by exact rfl)(hb:hget H b=some (.row te sz 0 (F e l)):=by exact rfl)(hz: ∀ a,(e a).length=sz:=by exact fun _=>rfl)(hpos:Nat.blt 0 ti.size=true:=by exact rfl)(hin:Nat.ble (o+es.length) sz=true:=by exact rfl)(hu:updL (e a) o es=e a':=by exact rfl):RunL c ops Q (⟨none,.store t x y,ty,pos,af,none⟩::rest) ⟨T,H,M⟩:=by
 obtain ⟨v,hv,h⟩:=bind_some h;obtain ⟨h0,hlt,rfl⟩:=put_some hv
 have hin:=Nat.le_of_ble_eq_true hin
 have hpos:0<ti.size:=by simpa [Nat.blt_eq] using hpos
 have h2:=hn _ (by simp) h
 rw [←F_put hz ha hin hu] at h2
 have hi:i.toNat<l.length:=by omega
 have hle:i.toNat*sz+sz≤l.length*sz:=by rw [←Nat.succ_mul];exact Nat.mul_le_mul_right _ hi
 exact Jd (s:=⟨T,H,M⟩) (e_store_row ht hx hy hes hf hl hcl hb (Nat.zero_le _) (by rw [Qv hz];omega) hpos rfl) rfl h2
theorem l_put0 {te:TypeId}{α ρ:Type}{l:List α}{e:α→List AV}{a a':α}{kk:List α→Option ρ}{r:ρ}{t:TypeId}{x y:Operand}{ay:AV}{es:List AV}{b sz:Nat}{i:Int}{ti:TI}(ha:at' l i=some a)(h:(put l i a').bind kk=some r)(hn: ∀ v,v.length=l.length→kk v=some r→RunL c ops Q rest ⟨T,hset H b (.row te sz 0 (F e v)),M⟩)  (ht:tget c.U t=some ti:=by exact rfl)(hx:opv T x=some (.ptr b (i.toNat*sz)):=by exact rfl)(hy:opv T y=some ay:=by exact rfl)(hes:cellsA ay=es:=by exact rfl)(hf:fit ay=true:=by exact rfl)(hl:es.length=ti.size:=by exact rfl)(hcl:AV.closedL es=true:=by exact rfl)(hb:hget H b=some (.row te sz 0 (F e l)):=by exact rfl)(hz: ∀ a,(e a).length=sz:=by exact fun _=>rfl)(hpos:Nat.blt 0 ti.size=true:=by exact rfl)(hin:Nat.ble es.length sz=true:=by exact rfl)(hu:updL (e a) 0 es=e a':=by exact rfl):RunL c ops Q (⟨none,.store t x y,ty,pos,af,none⟩::rest) ⟨T,H,M⟩:=
 l_put (o:=0) ha h hn  ht hx hy hes hf hl hcl hb hz hpos (by rw [Nat.zero_add];exact hin) hu
theorem l_make {α ρ:Type}{e:α→List AV}{z:α}{kk:List α→Option ρ}{r:ρ}{t:TypeId}{x y:Operand}{kx ky:IntKind}{l:Int}{sz by_:Nat}{ti ei:TI}{et:TypeId}(h:(W.mk by_ l z).bind kk=some r)(hn: ∀ v,v.length=l.toNat→kk v=some r→RunL c ops Q rest ⟨(d,.sl (nm (some d)) 0 v.length)::T,(nm (some d),.row et sz 0 (F e v))::H,M⟩)(ht:tget c.U t=some ti:=by exact rfl)(htd:ti.desc= .slice et:=by exact rfl)(he:tget c.U et=some ei:=by exact rfl)(hk:ei.size=sz:=by exact rfl)(hby:ei.bytes=by_:=by exact rfl)(hx:opv T x=some (.pl (.int kx l)):=by exact rfl)(hy:opv T y=some (.pl (.int ky l)):=by exact rfl)(hz: ∀ a,(e a).length=sz:=by exact fun _=>rfl)(hcs2:cellsA (ofVal ei.zero)=e z:=by exact rfl)(hf:fit (ofVal ei.zero)=true:=by exact rfl)(hcl:AV.closedL (e z)=true:=by exact rfl)(hpos:Nat.blt 0 sz=true:=by exact rfl)(hb:hget H (nm (some d))=none:=by exact rfl)(hdo:dstOk c.N (some d)=true:=by exact rfl):RunL c ops Q (⟨some d,.makeSlice t x y,ty,pos,af,none⟩::rest) ⟨T,H,M⟩:=by
 subst hby
 obtain ⟨v,hv,h⟩:=bind_some h;obtain ⟨h0,h1,h2,rfl⟩:=mk_some hv
 have hpos:0<sz:=by simpa [Nat.blt_eq] using hpos
 have h3:=hn _ (by simp) h
 rw [←F_rep,List.length_replicate] at h3
 have hop:=e_makeSlice (s:=⟨T,H,M⟩) (d:=some d) (ty:=ty) (pos:=pos) (af:=af) (g:=none) ht htd he hk hpos hx hy hcs2 hf hcl (hz z) h0 (Int.le_refl _) h1 h2 hb hdo
 exact Jd (s:=⟨T,H,M⟩) hop.e rfl h3
theorem l_bitsU {op:BinOp}{t t':TypeId}{x y:Operand}{m n r:Int}(hnext:RunL c ops Q rest ⟨(d,U (u8 r))::T,H,M⟩)(hx:opv T x=some (.pl (.int .u8 m)):=by exact rfl)(hy:opv T y=some (.pl (.int .u8 n)):=by exact rfl)(hr:bitsOf op 8 m n=some r:=by exact rfl)(hdo:dstOk c.N (some d)=true:=by exact rfl):RunL c ops Q (⟨some d,.binOp op t x y t',ty,pos,af,none⟩::rest) ⟨T,H,M⟩:=l_bits (k:= .u8) (by rw [wrap_u8_eq];exact hnext) hx hy hr hdo
theorem l_shrU {t t':TypeId}{x y:Operand}{k':IntKind}{n:Int}(a:UInt8)(q:Nat)(hnext:RunL c ops Q rest ⟨(d,U (u8 ((a.toNat:Int).fdiv (2^q))))::T,H,M⟩)(hx:opv T x=some (U a):=by exact rfl)(hy:opv T y=some (.pl (.int k' n)):=by exact rfl)(hr:W.shr 8 (a.toNat:Int) n=some ((a.toNat:Int).fdiv (2^q)):=by exact rfl)(hdo:dstOk c.N (some d)=true:=by exact rfl):RunL c ops Q (⟨some d,.binOp .shr t x y t',ty,pos,af,none⟩::rest) ⟨T,H,M⟩:=QI (k:= .u8) (by rw [shr_u8_eq];exact hnext) hx hy hr hdo
theorem l_atg {α ρ:Type}{l:List α}{e:α→List AV}{ev:α→List Value}{kk:α→Option ρ}{r:ρ}(j:Nat){b n k:Nat}{t:TypeId}{x y:Operand}{kx:IntKind}{i:Int}{ti ei:TI}{et:TypeId}(h:(at' l i).bind kk=some r)(hn: ∀ a,at' l i=some a→kk a=some r→RunL c ops Q rest ⟨(d,.vptr (e a))::T,H,M⟩)
 (ht:tget c.U t=some ti:=by exact rfl) (htd:ti.desc= .array n et:=by exact rfl) (he:tget c.U et=some ei:=by exact rfl) (hk:ei.size=k:=by exact rfl) (hx:opv T x=some (.pl (.pointer (some ⟨b,0,none⟩))):=by exact rfl) (hy:opv T y=some (.pl (.int kx i)):=by exact rfl) (htab:GTab.tab[j]? =some (b,l.flatMap ev):=by exact rfl) (hln:l.length=n:=by exact rfl) (hz: ∀ a,(ev a).length=k:=by exact fun _=>rfl) (hev: ∀ a,(ev a).map AV.pl=e a:=by exact fun _=>rfl) (hdo:dstOk c.N (some d)=true:=by exact rfl):RunL c ops Q (⟨some d,.indexAddr t x y,ty,pos,af,none⟩::rest) ⟨T,H,M⟩:=by
 obtain ⟨a,ha,h⟩:=bind_some h;obtain ⟨h0,hlt,hg⟩:=at'_some ha
 have hi:i.toNat<l.length:=by omega
 have hla:l[i.toNat]=a:=by rw [List.getElem?_eq_getElem hi] at hg;exact Option.some.inj hg
 exact qi (s:=⟨T,H,M⟩) (s_indexGlob (ds:=e a) ht htd he hk hx hy htab (by omega) (fun m z hm=>by
  rw [←hev a,List.getElem?_map,Option.map_eq_some_iff] at hm
  obtain ⟨v,hv,rfl⟩:=hm;refine ⟨v,?_,rfl⟩
  rw [flat_at hz l i.toNat m hi (by rw [←hz a];exact (List.getElem?_eq_some_iff.1 hv).1),hla];exact hv)).later rfl hdo (hn a ha h)
theorem l_sub3 {α ρ:Type}{kk:List α→Option ρ}{r:ρ}{t:TypeId}{x y z:Operand}{lo:Option Operand}{l:List α}{e:α→List AV}{i j q:Int}{ky kz:IntKind}{ti ei:TI}{et:TypeId}(h:(W.sub3 l i j q).bind kk=some r)(hn: ∀ v,W.sub3 l i j q=some v→kk v=some r→RunL c ops Q rest ⟨(d,.vs v.length (F e v))::T,H,M⟩)(ht:tget c.U t=some ti:=by exact rfl)(htd:ti.desc= .slice et:=by exact rfl)(he:tget c.U et=some ei:=by exact rfl)(hx:opv T x=some (.vs l.length (F e l)):=by exact rfl)(hlo:bnd T 0 lo=some i:=by exact rfl)(hy:opv T y=some (.pl (.int ky j)):=by exact rfl)(hz0:opv T z=some (.pl (.int kz q)):=by exact rfl)(hz: ∀ a,(e a).length=ei.size:=by exact fun _=>rfl)(hdo:dstOk c.N (some d)=true:=by exact rfl):RunL c ops Q (⟨some d,.slice t x lo (some y) (some z),ty,pos,af,none⟩::rest) ⟨T,H,M⟩:=by
 obtain ⟨v,hv,h⟩:=bind_some h
 have h2:=hn v hv h
 obtain ⟨hq1,hq2,hs⟩:=W.sub3_some hv;obtain ⟨h0,h1,h3,rfl⟩:=sub'_some hs
 have hi':((i.toNat:Nat):Int)=i:=Int.toNat_of_nonneg h0
 have hj':((j.toNat:Nat):Int)=j:=Int.toNat_of_nonneg (by omega)
 have hq':((q.toNat:Nat):Int)=q:=Int.toNat_of_nonneg (by omega)
 rw [←hi'] at hlo
 rw [←hj'] at hy
 rw [←hq'] at hz0
 have hlen:((l.drop i.toNat).take (j.toNat-i.toNat)).length=j.toNat-i.toNat:=by simp;omega
 rw [hlen] at h2
 refine qi (s:=⟨T,H,M⟩) (s_slice3_vs (l:=i.toNat) (h:=j.toNat) (m:=q.toNat) ht htd he hx hlo hy hz0 (by omega) (by omega) (by omega) ?_).later rfl hdo h2;exact F_sub hz l _ _
theorem n_addw {t t':TypeId}{x y:Operand}{k:IntKind}{m n:Int}(hnext:RunM c ops hot Q lq ⟨(d,.pl (.int k (k.wrap (m+n))))::T,H,M⟩)(hx:opv T x=some (.pl (.int k m)):=by exact rfl)(hy:opv T y=some (.pl (.int k n)):=by exact rfl)(hdo:dstOk c.N (some d)=true:=by exact rfl):RunN c ops hot Q i0 false ⟨some d,.binOp .add t x y t',ty,pos,af,none⟩ lq ⟨T,H,M⟩:=RN_int hx hy (fun w'=>by simp [binOp,Op.intArith]) hdo hnext
theorem n_subw {t t':TypeId}{x y:Operand}{k:IntKind}{m n:Int}(hnext:RunM c ops hot Q lq ⟨(d,.pl (.int k (k.wrap (m-n))))::T,H,M⟩)(hx:opv T x=some (.pl (.int k m)):=by exact rfl)(hy:opv T y=some (.pl (.int k n)):=by exact rfl)(hdo:dstOk c.N (some d)=true:=by exact rfl):RunN c ops hot Q i0 false ⟨some d,.binOp .sub t x y t',ty,pos,af,none⟩ lq ⟨T,H,M⟩:=RN_int hx hy (fun w'=>by simp [binOp,Op.intArith]) hdo hnext
theorem n_mulw {t t':TypeId}{x y:Operand}{k:IntKind}{m n:Int}(hnext:RunM c ops hot Q lq ⟨(d,.pl (.int k (k.wrap (m*n))))::T,H,M⟩)(hx:opv T x=some (.pl (.int k m)):=by exact rfl)(hy:opv T y=some (.pl (.int k n)):=by exact rfl)(hdo:dstOk c.N (some d)=true:=by exact rfl):RunN c ops hot Q i0 false ⟨some d,.binOp .mul t x y t',ty,pos,af,none⟩ lq ⟨T,H,M⟩:=RN_int hx hy (fun w'=>by simp [binOp,Op.intArith]) hdo hnext
theorem n_call {α ρ:Type}{P:Program}{g:Option α}{kk:α→Option ρ}{r:ρ}{E:α→AV}{cl:Call}{k:FuncId}{first cap es args:List AV}(h:g.bind kk=some r)(hs: ∀ v,g=some v→XSpec P k args [] (E v) [] [])(hn: ∀ v,g=some v→kk v=some r→RunM c ops hot Q lq ⟨(d,E v)::T,H,M⟩)
 (hP:c.P=P:=by exact rfl) (hk:calleeOf T cl.callee=some (k,first,cap):=by exact rfl) (ha:opvL T cl.args.toList=some es:=by exact rfl) (hargs:first++es++cap=args:=by exact rfl) (hcl:AV.onlyL [] args=true:=by first|exact rfl|(simp only [AV.closedL,AV.closed,AV.onlyL,AV.only,Bool.true_and,Bool.and_true];first|exact And.left (by assumption)|exact And.right (by assumption))) (hdo:dstOk c.N (some d)=true:=by exact rfl):RunN c ops hot Q i0 true ⟨some d,.call cl,ty,pos,af,none⟩ lq ⟨T,H,M⟩:=by
 obtain ⟨v,hv,h⟩:=bind_some h;exact RN_pcall (hs v hv).p hP hk ha hargs hcl hdo (hn v hv h)
theorem n_callB {α ρ:Type}{P:Program}{g:Option α}{kk:α→Option ρ}{r:ρ}{E:α→AV}{cl:Call}{k:FuncId}{first cap es args:List AV}(h:g.bind kk=some r)(hs: ∀ v,g=some v→XSpec P k args [] (E v) [] [])(hn: ∀ v,g=some v→kk v=some r→RunM c ops hot Q lq ⟨(d,E v)::T,H,M⟩)
 (hP:c.P=P:=by exact rfl) (hk:calleeOf T cl.callee=some (k,first,cap):=by exact rfl) (ha:opvL T cl.args.toList=some es:=by exact rfl) (hargs:AV.mapNL (brwW H) (first++es++cap)=args:=by exact rfl) (hr: ∀ v,(E v).flat=true:=by exact fun _=>rfl) (hdo:dstOk c.N (some d)=true:=by exact rfl):RunN c ops hot Q i0 true ⟨some d,.call cl,ty,pos,af,none⟩ lq ⟨T,H,M⟩:=by
 obtain ⟨v,hv,h⟩:=bind_some h
 subst hP
 exact RN_callB (hs v hv).p hk ha hargs (hr v) hdo (hn v hv h)
theorem zT {α ρ:Type}{P:Program}{g:Option α}{kk:α→Option ρ}{r:ρ}{E:α→AV}{Hf H1 H2:List (Nat×AObj)}{H':α→List (Nat×AObj)}{mv mv':List Nat}{cl:Call}{k:FuncId}{first cap es args args0:List AV}(ws:List (Nat×Nat))(ns:List Nat)(h:g.bind kk=some r)(hs: ∀ v,g=some v→XSpec P k args Hf (E v) (H' v) mv)
 (hn: ∀ v,g=some v→kk v=some r→RunM c ops hot Q lq ⟨putT (kiT mv' T) (some d) ((E v).mapN (swL ws)),swH ws (H' v)++kiH mv' H2,mv'++M⟩) (hh:ns=[]∨mem i0 hot=true:=by first|exact Or.inl rfl|exact Or.inr rfl)
 (hmv:mv.map (swp ws)=mv':=by exact rfl) (hP:c.P=P:=by exact rfl) (hk:calleeOf T cl.callee=some (k,first,cap):=by exact rfl) (ha:opvL T cl.args.toList=some es:=by exact rfl) (ha0:first++es++cap=args0:=by exact rfl) (hargs:AV.mapNL (swL ws) args0=args:=by exact rfl) (hH1:hpick ns H=H1:=by exact rfl) (hHf:swH ws H1=Hf:=by exact rfl)
 (hok:honly ns H1=true:=by exact rfl) (hon:AV.onlyL ns args0=true:=by exact rfl) (hH2:hrest ns H=H2:=by exact rfl) (hap: ∀ v,hapart (swH ws (H' v)) H2=true:=by exact fun _=>rfl) (hdo:dstOk c.N (some d)=true:=by exact rfl) (hw:nodupB (swN ws)=true:=by exact rfl):RunN c ops hot Q i0 true ⟨some d,.call cl,ty,pos,af,none⟩ lq ⟨T,H,M⟩:=by
 obtain ⟨v,hv,h⟩:=bind_some h
 subst hP hmv
 exact RN_callX ns hh ((hs v hv).sw ws hw hargs hHf) hk ha ha0 hH1 hok hon hH2 (hap v) hdo (hn v hv h)
theorem n_at {α ρ:Type}{l:List α}{e:α→List AV}{kk:α→Option ρ}{r:ρ}{t:TypeId}{x y:Operand}{k:IntKind}{i:Int}{ti ei:TI}{et:TypeId}(h:(at' l i).bind kk=some r)(hn: ∀ a,at' l i=some a→kk a=some r→RunM c ops hot Q lq ⟨(d,.vptr (e a))::T,H,M⟩)
 (ht:tget c.U t=some ti:=by exact rfl) (htd:ti.desc= .slice et:=by exact rfl) (he:tget c.U et=some ei:=by exact rfl) (hx:opv T x=some (.vs l.length (F e l)):=by exact rfl) (hy:opv T y=some (.pl (.int k i)):=by exact rfl) (hz: ∀ a,(e a).length=ei.size:=by exact fun _=>rfl) (hdo:dstOk c.N (some d)=true:=by exact rfl):RunN c ops hot Q i0 false ⟨some d,.indexAddr t x y,ty,pos,af,none⟩ lq ⟨T,H,M⟩:=by
 obtain ⟨a,ha,h⟩:=bind_some h;obtain ⟨h0,hlt,hg⟩:=at'_some ha
 have hi:i.toNat<l.length:=by omega
 have hd:(F e l).drop (i.toNat*ei.size)=e a++F e (l.drop (i.toNat+1)):=by
  have:=flat_drop hz l i.toNat hi
  rw [List.getElem?_eq_getElem hi] at hg
  cases hg
  exact this
 exact RN_indexAddr_vsD ht htd he hx hy ⟨h0,hlt⟩ hd hdo fun a' w hs=>hn a ha h a' w (hs.weak1 (Le_vptr _ _))
theorem n_lens {t:TypeId}{x:Operand}{l:List UInt8}{ti:TI}(hnext:RunM c ops hot Q lq ⟨(d,I (l.length:Int))::T,H,M⟩)(ht:tget c.U t=some ti:=by exact rfl)(htd:ti.desc= .string:=by exact rfl)(hx:opv T x=some (S l):=by exact rfl)(hdo:dstOk c.N (some d)=true:=by exact rfl):RunN c ops hot Q i0 false ⟨some d,.call {callee:= .builtin .len,args:= #[x],argTypes:= #[t]},ty,pos,af,none⟩ lq ⟨T,H,M⟩:=RN_len_str ht htd hx hdo hnext
theorem n_sne {t t':TypeId}{x y:Operand}{l m:List UInt8}(hnext:RunM c ops hot Q lq ⟨(d,B (!(l==m)))::T,H,M⟩)(hx:opv T x=some (S l):=by exact rfl)(hy:opv T y=some (S m):=by exact rfl)(hdo:dstOk c.N (some d)=true:=by exact rfl):RunN c ops hot Q i0 false ⟨some d,.binOp .neq t x y t',ty,pos,af,none⟩ lq ⟨T,H,M⟩:=RN_str hx hy (fun w'=>by simp [Op.stringOp,ByteArray.toList_eq]) hdo hnext
theorem n_subs {ρ:Type}{kk:List UInt8→Option ρ}{r:ρ}{t:TypeId}{x:Operand}{lo hi:Option Operand}{l:List UInt8}{i j:Int}{ti:TI}(h:(sub' l i j).bind kk=some r)(hn: ∀ v,sub' l i j=some v→kk v=some r→RunM c ops hot Q lq ⟨(d,S v)::T,H,M⟩)(ht:tget c.U t=some ti:=by exact rfl)(htd:ti.desc= .string:=by exact rfl)(hx:opv T x=some (S l):=by exact rfl)(hlo:bnd T 0 lo=some i:=by exact rfl)(hhi:bnd T (l.length:Int) hi=some j:=by exact rfl)(hdo:dstOk c.N (some d)=true:=by exact rfl):RunN c ops hot Q i0 false ⟨some d,.slice t x lo hi none,ty,pos,af,none⟩ lq ⟨T,H,M⟩:=by
 obtain ⟨v,hv,h⟩:=bind_some h
 have h2:=hn v hv h
 obtain ⟨h0,h1,h3,rfl⟩:=sub'_some hv
 have hi':((i.toNat:Nat):Int)=i:=Int.toNat_of_nonneg h0
 have hj':((j.toNat:Nat):Int)=j:=Int.toNat_of_nonneg (by omega)
 rw [←hi'] at hlo
 rw [←hj'] at hhi
 have e:(ByteArray.mk l.toArray).extract i.toNat j.toNat=⟨((l.drop i.toNat).take (j.toNat-i.toNat)).toArray⟩:=by apply ByteArray.ext;simp
 unfold S at h2
 rw [←e] at h2
 exact ZA (s:=⟨T,H,M⟩) (q_slice_str ht htd hx hlo hhi (by omega) (by show j.toNat≤l.length;omega)) rfl hdo h2
theorem n_lenn {t:TypeId}{x:Operand}{ti:TI}{et:TypeId}(hnext:RunM c ops hot Q lq ⟨(d,I 0)::T,H,M⟩)(ht:tget c.U t=some ti:=by exact rfl)(htd:ti.desc= .slice et:=by exact rfl)(hx:opv T x=some (.pl (.slice none 0 0)):=by exact rfl)(hdo:dstOk c.N (some d)=true:=by exact rfl):RunN c ops hot Q i0 false ⟨some d,.call {callee:= .builtin .len,args:= #[x],argTypes:= #[t]},ty,pos,af,none⟩ lq ⟨T,H,M⟩:=RN_len (n:=0) ht htd hx rfl hdo hnext
theorem n_subf {α ρ:Type}{kk:List α→Option ρ}{r:ρ}{t:TypeId}{x:Operand}{lo hi:Option Operand}{l:List α}{e:α→List AV}{i j:Int}{ti ei:TI}{et:TypeId}(h:(sub' l i j).bind kk=some r)(hn: ∀ v,sub' l i j=some v→kk v=some r→RunM c ops hot Q lq ⟨(d,.vs v.length (F e v))::T,H,M⟩)(ht:tget c.U t=some ti:=by exact rfl)(htd:ti.desc= .slice et:=by exact rfl)(he:tget c.U et=some ei:=by exact rfl)(hx:opv T x=some (.vs l.length (F e l)):=by exact rfl)(hlo:bnd T 0 lo=some i:=by exact rfl)(hhi:bnd T (l.length:Int) hi=some j:=by exact rfl)(hz: ∀ a,(e a).length=ei.size:=by exact fun _=>rfl)(hdo:dstOk c.N (some d)=true:=by exact rfl):RunN c ops hot Q i0 false ⟨some d,.slice t x lo hi none,ty,pos,af,none⟩ lq ⟨T,H,M⟩:=by
 obtain ⟨v,hv,h⟩:=bind_some h
 have h2:=hn v hv h
 obtain ⟨h0,h1,h3,rfl⟩:=sub'_some hv
 have hi':((i.toNat:Nat):Int)=i:=Int.toNat_of_nonneg h0
 have hj':((j.toNat:Nat):Int)=j:=Int.toNat_of_nonneg (by omega)
 rw [←hi'] at hlo
 rw [←hj'] at hhi
 have el:((l.drop i.toNat).take (j.toNat-i.toNat)).length=j.toNat-i.toNat:=by rw [List.length_take,List.length_drop];omega
 rw [el] at h2
 exact RN_slice_vs ht htd he hx hlo hhi (by omega) (by omega) (F_sub hz l _ _) hdo h2
theorem qc {te:TypeId}{α ρ:Type}{l:List α}{e:α→List AV}{kk:α→Option ρ}{r:ρ}{b fz sz:Nat}{t:TypeId}{x y:Operand}{k:IntKind}{i:Int}{ti ei:TI}{et:TypeId}(h:(at' l i).bind kk=some r)(hn: ∀ a,at' l i=some a→kk a=some r→RunM c ops hot Q lq ⟨(d,.ptr b (i.toNat*sz))::T,H,M⟩)
 (ht:tget c.U t=some ti:=by exact rfl) (htd:ti.desc= .slice et:=by exact rfl) (he:tget c.U et=some ei:=by exact rfl) (hsz:ei.size=sz:=by exact rfl) (hx:opv T x=some (.sl b 0 l.length):=by exact rfl) (hb:hget H b=some (.row te sz fz (F e l)):=by exact rfl) (hy:opv T y=some (.pl (.int k i)):=by exact rfl) (hdo:dstOk c.N (some d)=true:=by exact rfl):RunN c ops hot Q i0 false ⟨some d,.indexAddr t x y,ty,pos,af,none⟩ lq ⟨T,H,M⟩:=by
 obtain ⟨a,ha,h⟩:=bind_some h;obtain ⟨h0,hlt,hg⟩:=at'_some ha
 have hi:((i.toNat:Nat):Int)=i:=Int.toNat_of_nonneg h0
 rw [←hi] at hy
 subst hsz
 exact ZA (s:=⟨T,H,M⟩) (q_indexAddr_sl0 ht htd he hx hy (by omega)) rfl hdo (hn a ha h)
theorem ZQ {te:TypeId}{α:Type}{l:List α}{e:α→List AV}{a:α}{b fz sz o:Nat}{i:Int}{t:TypeId}{x:Operand}{ay:AV}{ti:TI}(ha:at' l i=some a)(hnext:RunM c ops hot Q lq ⟨(d,ay)::T,H,M⟩)(ht:tget c.U t=some ti:=by exact rfl)(hag:aggD ti.desc=false:=by exact rfl)(hx:opv T x=some (.ptr b (i.toNat*sz+o)):=by exact rfl)(hb:hget H b=some (.row te sz fz (F e l)):=by exact rfl)(hz: ∀ a,(e a).length=sz:=by exact fun _=>rfl)(hc:(e a)[o]? =some ay:=by exact rfl)(hdo:dstOk c.N (some d)=true:=by exact rfl):RunN c ops hot Q i0 false ⟨some d,.load t x,ty,pos,af,none⟩ lq ⟨T,H,M⟩:=
 RN_load ht hag hx (show memAt H (.ptr b (i.toNat*sz+o))=some ((F e l).drop (i.toNat*sz+o)) by simp only [memAt,hb]) (F_head hz ha hc) hdo hnext
theorem Jf {te:TypeId}{α:Type}{l:List α}{e:α→List AV}{a:α}{b fz sz:Nat}{i:Int}{t:TypeId}{x:Operand}{ti:TI}(ha:at' l i=some a)(hnext:RunM c ops hot Q lq ⟨(d,.agg (e a))::T,H,M⟩)(ht:tget c.U t=some ti:=by exact rfl)(hag:aggD ti.desc=true:=by exact rfl)(hx:opv T x=some (.ptr b (i.toNat*sz)):=by exact rfl)(hb:hget H b=some (.row te sz fz (F e l)):=by exact rfl)(hsz:ti.size=sz:=by exact rfl)(hz: ∀ a,(e a).length=sz:=by exact fun _=>rfl)(hdo:dstOk c.N (some d)=true:=by exact rfl):RunN c ops hot Q i0 false ⟨some d,.load t x,ty,pos,af,none⟩ lq ⟨T,H,M⟩:=
 RN_load_agg ht hag hx (show memAt H (.ptr b (i.toNat*sz))=some ((F e l).drop (i.toNat*sz)) by simp only [memAt,hb]) (by rw [hsz];exact F_take hz ha) (by rw [hsz];exact hz a) hdo hnext
theorem n_lit {α:Type}{e:α→List AV}(l:List α){t:TypeId}{n:Nat}{parts:Array (Nat×Operand)}{axs:List AV}{ti ei:TI}{et k:Nat}(hnext:RunM c ops hot Q lq ⟨(d,.sl (nm (some d)) 0 l.length)::T,(nm (some d),.row et k 0 (F e l))::H,M⟩)(ht:tget c.U t=some ti:=by exact rfl)(htd:ti.desc= .slice et:=by exact rfl)(he:tget c.U et=some ei:=by exact rfl)(hk:ei.size=k:=by exact rfl)(hk0:Nat.blt 0 k=true:=by exact rfl)(hzs:ei.zero.cells.size=k:=by exact rfl)(hparts:seqB 0 parts.toList=true:=by exact rfl)(hn:parts.toList.length=n:=by exact rfl)(hn0:Nat.blt 0 n=true:=by exact rfl)(hx:opvL T (parts.toList.map (·.2))=some axs:=by exact rfl)(hfit:fitAll k axs=true:=by exact rfl)(hcs:cellsL axs=F e l:=by exact rfl)(hl:l.length=n:=by exact rfl)(hlim:Nat.ble (n*k) (2^24)=true:=by exact rfl)(hb:hget H (nm (some d))=none:=by exact rfl)(hdo:dstOk c.N (some d)=true:=by exact rfl):RunN c ops hot Q i0 true ⟨some d,.buildSlice t n parts,ty,pos,af,none⟩ lq ⟨T,H,M⟩:=
 RN_buildSliceN ht htd he hk hk0 hzs hparts hn hn0 hx hfit hcs hlim hb hdo (by rw [←hl];exact hnext)
theorem n_appo {te':TypeId}{α ρ:Type}{e:α→List AV}{kk:List α→Option ρ}{r:ρ}{l m:List α}{sz b b' k fz':Nat}{t:TypeId}{x y:Operand}{ti ei:TI}{et:TypeId}(h:(app sz l m).bind kk=some r)(hn: ∀ v,app sz l m=some v→kk v=some r→RunM c ops hot Q lq ⟨(d,.sl b 0 v.length)::killT b T,(b,.row et k 0 (F e v))::killH b H,b::M⟩)(hh:mem i0 hot=true:=by exact rfl)(ht:tget c.U t=some ti:=by exact rfl)(htd:ti.desc= .slice et:=by exact rfl)(he:tget c.U et=some ei:=by exact rfl)(hk:ei.size=k:=by exact rfl)(hzs:ei.zero.cells.size=k:=by exact rfl)(hbb:ei.bytes=sz:=by exact rfl)(hbp:Nat.blt 0 sz=true:=by exact rfl)(hx:opv T x=some (.sl b 0 l.length):=by exact rfl)(hb:hget H b=some (.row et k 0 (F e l)):=by exact rfl)(hy:opv T y=some (.sl b' 0 m.length):=by exact rfl)(hb':hget H b'=some (.row te' k fz' (F e m)):=by exact rfl)(hz: ∀ a,(e a).length=k:=by exact fun _=>rfl)(hdo:dstOk c.N (some d)=true:=by exact rfl):RunN c ops hot Q i0 true ⟨some d,.call {callee:= .builtin .append,args:= #[x,y],argTypes:= #[t,t]},ty,pos,af,none⟩ lq ⟨T,H,M⟩:=by
 obtain ⟨v,hv,h⟩:=bind_some h
 have h2:=hn v hv h
 obtain ⟨hl,rfl⟩:=app_some hv
 subst hbb
 have hbp:0<ei.bytes:=by simpa [Nat.blt_eq] using hbp
 rw [List.length_append,F_app hz] at h2
 exact RN_append ht htd he hk hzs hbp hx hb (by rw [Qv hz];omega) (Nat.zero_le _) hy (show srcAt H k (.sl b' 0 m.length)=some (m.length,F e m) by simp only [srcAt,hb',List.drop_zero];rw [List.take_of_length_le (by rw [Qv hz];omega)]) (Qv hz m) hl hdo hh h2
theorem n_eqs {op:BinOp}{t t':TypeId}{x y:Operand}{k:IntKind}(xs ys:List Int){r:Bool}{ti:TI}{fs:Array Field}(hsh:c.P.stoodInHeld t=false)(hgt:c.P.eqGuardType c.P.depth t=false)(hnext:RunM c ops hot Q lq ⟨(d,(.pl (.bool r)))::T,H,M⟩)(ht:tget c.U t=some ti:=by exact rfl)(hd:ti.desc= .struct fs:=by exact rfl)(hB:intFs c.U k 0 fs.toList=true:=by exact rfl)(hlx:xs.length=fs.toList.length:=by exact rfl)(hly:ys.length=fs.toList.length:=by exact rfl)(hx:opv T x=some (.agg (encIs k xs)):=by exact rfl)(hy:opv T y=some (.agg (encIs k ys)):=by exact rfl)(hop:(op= .eql∧r=(xs==ys))∨(op= .neq∧r= !(xs==ys)):=by first|exact Or.inl ⟨rfl,rfl⟩|exact Or.inr ⟨rfl,rfl⟩)(hdo:dstOk c.N (some d)=true:=by exact rfl):RunN c ops hot Q i0 false ⟨some d,.binOp op t x y t',ty,pos,af,none⟩ lq ⟨T,H,M⟩:=RN_eq_ints hsh hgt ht hd hB hlx hly hx rfl hy rfl hop hdo hnext
theorem n_callF {α ρ:Type}{P:Program}{g:Option α}{kk:α→Option ρ}{r:ρ}{E:α→AV}{cl:Call}{k:FuncId}{cap es args:List AV}(hc:AV.closedL cap=true∧AV.onlyL [] cap=true)(h:g.bind kk=some r)(hs: ∀ v,g=some v→XSpec P k args [] (E v) [] [])(hn: ∀ v,g=some v→kk v=some r→RunM c ops hot Q lq ⟨(d,E v)::T,H,M⟩)
 (hP:c.P=P:=by exact rfl) (hk:calleeOf T cl.callee=some (k,[],cap):=by exact rfl) (ha:opvL T cl.args.toList=some es:=by exact rfl) (hargs:[]++es++cap=args:=by exact rfl) (hcl:AV.onlyL [] es=true:=by exact rfl) (hdo:dstOk c.N (some d)=true:=by exact rfl):RunN c ops hot Q i0 true ⟨some d,.call cl,ty,pos,af,none⟩ lq ⟨T,H,M⟩:=by
 obtain ⟨v,hv,h⟩:=bind_some h
 subst hargs
 exact RN_pcall (hs v hv).p hP hk ha rfl (by rw [List.nil_append];exact onlyL_app hcl hc.2) hdo (hn v hv h)
theorem n_max2 {x y:Operand}{argTs:Array TypeId}{k:IntKind}{m n:Int}(hnext:RunM c ops hot Q lq ⟨(d,.pl (.int k (mx m n)))::T,H,M⟩)(hx:opv T x=some (.pl (.int k m)):=by exact rfl)(hy:opv T y=some (.pl (.int k n)):=by exact rfl)(hdo:dstOk c.N (some d)=true:=by exact rfl):RunN c ops hot Q i0 false ⟨some d,.call {callee:= .builtin .max,args:= #[x,y],argTypes:=argTs},ty,pos,af,none⟩ lq ⟨T,H,M⟩:=ZA (s:=⟨T,H,M⟩) (q_max2 hx hy) rfl hdo hnext
theorem n_ldr0 {te:TypeId}{α:Type}{l:List α}{e:α→List AV}{a:α}{b fz sz:Nat}{i:Int}{t:TypeId}{x:Operand}{ay:AV}{ti:TI}(ha:at' l i=some a)(hnext:RunM c ops hot Q lq ⟨(d,ay)::T,H,M⟩)(ht:tget c.U t=some ti:=by exact rfl)(hag:aggD ti.desc=false:=by exact rfl)(hx:opv T x=some (.ptr b (i.toNat*sz)):=by exact rfl)(hb:hget H b=some (.row te sz fz (F e l)):=by exact rfl)(hz: ∀ a,(e a).length=sz:=by exact fun _=>rfl)(hc:(e a)[0]? =some ay:=by exact rfl)(hdo:dstOk c.N (some d)=true:=by exact rfl):RunN c ops hot Q i0 false ⟨some d,.load t x,ty,pos,af,none⟩ lq ⟨T,H,M⟩:=
 RN_load ht hag hx (show memAt H (.ptr b (i.toNat*sz))=some ((F e l).drop (i.toNat*sz)) by simp only [memAt,hb]) (F_head (o:=0) hz ha hc) hdo hnext
theorem n_deref {α ρ:Type}{p:Option α}{e:α→List AV}{kk:α→Option ρ}{r:ρ}{x:Operand}(h:p.bind kk=some r)(hn: ∀ v,p=some v→kk v=some r→RunM c ops hot Q lq ⟨(d,.vptr (e v))::T,H,M⟩)(hx:opv T x=some (oP e p):=by exact rfl)(hdo:dstOk c.N (some d)=true:=by exact rfl):RunN c ops hot Q i0 false ⟨some d,.nilCheck x,ty,pos,af,none⟩ lq ⟨T,H,M⟩:=by
 obtain ⟨v,hv,h⟩:=bind_some h
 have hx':opv T x=some (.vptr (e v)):=by rw [hx,hv];rfl
 exact ZA (s:=⟨T,H,M⟩) (q_nilCheck hx' rfl) rfl hdo (hn v hv h)
theorem n_shlC {t t':TypeId}{x y:Operand}{k k':IntKind}{m n r:Int}(hnext:RunM c ops hot Q lq ⟨(d,.pl (.int k (k.wrap r)))::T,H,M⟩)(hx:opv T x=some (.pl (.int k m)):=by exact rfl)(hy:opv T y=some (.pl (.int k' n)):=by exact rfl)(hr:W.shl k.bits m n=some r:=by exact rfl)(hdo:dstOk c.N (some d)=true:=by exact rfl):RunN c ops hot Q i0 false ⟨some d,.binOp .shl t x y t',ty,pos,af,none⟩ lq ⟨T,H,M⟩:=ZA (s:=⟨T,H,M⟩) (q_shl hx hy hr) rfl hdo hnext
theorem n_bits {op:BinOp}{t t':TypeId}{x y:Operand}{k:IntKind}{m n r:Int}(hnext:RunM c ops hot Q lq ⟨(d,.pl (.int k (k.wrap r)))::T,H,M⟩)(hx:opv T x=some (.pl (.int k m)):=by exact rfl)(hy:opv T y=some (.pl (.int k n)):=by exact rfl)(hr:bitsOf op k.bits m n=some r:=by exact rfl)(hdo:dstOk c.N (some d)=true:=by exact rfl):RunN c ops hot Q i0 false ⟨some d,.binOp op t x y t',ty,pos,af,none⟩ lq ⟨T,H,M⟩:=ZA (s:=⟨T,H,M⟩) (q_bits hx hy hr) rfl hdo hnext
theorem n_capn {t:TypeId}{x:Operand}{ti:TI}{et:TypeId}(hnext:RunM c ops hot Q lq ⟨(d,I 0)::T,H,M⟩)(ht:tget c.U t=some ti:=by exact rfl)(htd:ti.desc= .slice et:=by exact rfl)(hx:opv T x=some (.pl (.slice none 0 0)):=by exact rfl)(hdo:dstOk c.N (some d)=true:=by exact rfl):RunN c ops hot Q i0 false ⟨some d,.call {callee:= .builtin .cap,args:= #[x],argTypes:= #[t]},ty,pos,af,none⟩ lq ⟨T,H,M⟩:=ZA (s:=⟨T,H,M⟩) (q_capn ht htd hx) rfl hdo hnext
theorem n_subp {te:TypeId}{ρ:Type}{kk:Unit→Option ρ}{r:ρ}{t:TypeId}{x:Operand}{hi:Option Operand}{b n k fz:Nat}{j:Int}{cs:List AV}{ti ei:TI}{et:TypeId}(h:(rng (n:Int) 0 j).bind kk=some r)(hn:kk ()=some r→RunM c ops hot Q lq ⟨(d,.sl b 0 j.toNat)::T,H,M⟩)(ht:tget c.U t=some ti:=by exact rfl)(htd:ti.desc= .slice et:=by exact rfl)(he:tget c.U et=some ei:=by exact rfl)(hx:opv T x=some (.sl b 0 n):=by exact rfl)(hb:hget H b=some (.row te k fz cs):=by exact rfl)(hk:ei.size=k:=by exact rfl)(hhi:bnd T (n:Int) hi=some j:=by exact rfl)(hdo:dstOk c.N (some d)=true:=by exact rfl):RunN c ops hot Q i0 false ⟨some d,.slice t x none hi none,ty,pos,af,none⟩ lq ⟨T,H,M⟩:=by
 obtain ⟨u,hv,h⟩:=bind_some h;obtain ⟨h1,h2,h3⟩:=rng_some hv;exact ZA (s:=⟨T,H,M⟩) (q_slice_part ht htd he hx hb hk (l:=0) (h:=j.toNat) rfl (by rw [hhi];congr 1;omega) (by omega) (by omega) (by rw [Nat.zero_mul])) rfl hdo (hn h)
theorem n_put {te:TypeId}{α ρ:Type}{l:List α}{e:α→List AV}{a a':α}{kk:List α→Option ρ}{r:ρ}{t:TypeId}{x y:Operand}{ay:AV}{es:List AV}{b o sz:Nat}{i:Int}{ti:TI}(ha:at' l i=some a)(h:(put l i a').bind kk=some r)(hn: ∀ v,v.length=l.length→kk v=some r→RunM c ops hot Q lq ⟨T,hset H b (.row te sz 0 (F e v)),M⟩)(hh:mem i0 hot=true:=by exact rfl)(ht:tget c.U t=some ti:=by exact rfl)(hx:opv T x=some (.ptr b (i.toNat*sz+o)):=by exact rfl)(hy:opv T y=some ay:=by exact rfl)(hes:cellsA ay=es:=by exact rfl)(hf:fit ay=true:=by exact rfl)(hl:es.length=ti.size:=by exact rfl)(hcl:AV.closedL es=true:=by exact rfl)(hb:hget H b=some (.row te sz 0 (F e l)):=by exact rfl)(hz: ∀ a,(e a).length=sz:=by exact fun _=>rfl)(hpos:Nat.blt 0 ti.size=true:=by exact rfl)(hin:Nat.ble (o+es.length) sz=true:=by exact rfl)(hu:updL (e a) o es=e a':=by exact rfl):RunN c ops hot Q i0 true ⟨none,.store t x y,ty,pos,af,none⟩ lq ⟨T,H,M⟩:=by
 obtain ⟨v,hv,h⟩:=bind_some h;obtain ⟨h0,hlt,rfl⟩:=put_some hv
 have hin:=Nat.le_of_ble_eq_true hin
 have hpos:0<ti.size:=by simpa [Nat.blt_eq] using hpos
 have h2:=hn _ (by simp) h
 rw [←F_put hz ha hin hu] at h2
 have hi:i.toNat<l.length:=by omega
 have hle:i.toNat*sz+sz≤l.length*sz:=by rw [←Nat.succ_mul];exact Nat.mul_le_mul_right _ hi
 exact RunN_e (s:=⟨T,H,M⟩) hh (e_store_row ht hx hy hes hf hl hcl hb (Nat.zero_le _) (by rw [Qv hz];omega) hpos rfl) rfl h2
theorem JK {te:TypeId}{α ρ:Type}{l:List α}{e:α→List AV}{a a':α}{kk:List α→Option ρ}{r:ρ}{t:TypeId}{x y:Operand}{ay:AV}{es:List AV}{b sz:Nat}{i:Int}{ti:TI}(ha:at' l i=some a)(h:(put l i a').bind kk=some r)(hn: ∀ v,v.length=l.length→kk v=some r→RunM c ops hot Q lq ⟨T,hset H b (.row te sz 0 (F e v)),M⟩)(hh:mem i0 hot=true:=by exact rfl)(ht:tget c.U t=some ti:=by exact rfl)(hx:opv T x=some (.ptr b (i.toNat*sz)):=by exact rfl)(hy:opv T y=some ay:=by exact rfl)(hes:cellsA ay=es:=by exact rfl)(hf:fit ay=true:=by exact rfl)(hl:es.length=ti.size:=by exact rfl)(hcl:AV.closedL es=true:=by exact rfl)(hb:hget H b=some (.row te sz 0 (F e l)):=by exact rfl)(hz: ∀ a,(e a).length=sz:=by exact fun _=>rfl)(hpos:Nat.blt 0 ti.size=true:=by exact rfl)(hin:Nat.ble es.length sz=true:=by exact rfl)(hu:updL (e a) 0 es=e a':=by exact rfl):RunN c ops hot Q i0 true ⟨none,.store t x y,ty,pos,af,none⟩ lq ⟨T,H,M⟩:=
 n_put (o:=0) ha h hn hh ht hx hy hes hf hl hcl hb hz hpos (by rw [Nat.zero_add];exact hin) hu
theorem Sat.relen {a:Act}{w:World}{t b o n m:Nat}(h:Sat c ⟨T,H,M⟩ a w)(ht:get T t=some (.sl b o n))(e:n=m):Sat c ⟨(t,.sl b o m)::T,H,M⟩ a w:=by subst e;exact h.weak ht (fun _ _ _ _ h=>h)
theorem k_relen {code:Code}{b o n:Nat}(t m:Nat)(h:Run c Q code ⟨(t,.sl b o m)::T,H,M⟩)(ht:get T t=some (.sl b o n):=by exact rfl)(e:n=m:=by omega):Run c Q code ⟨T,H,M⟩:=fun a w hs=>h a w (hs.relen ht e)
theorem l_relen {b o n:Nat}(t m:Nat)(h:RunL c ops Q rest ⟨(t,.sl b o m)::T,H,M⟩)(ht:get T t=some (.sl b o n):=by exact rfl)(e:n=m:=by omega):RunL c ops Q rest ⟨T,H,M⟩:=fun a w hs=>h a w (hs.relen ht e)
theorem m_relen {b o n:Nat}(t m:Nat)(h:RunM c ops hot Q lq ⟨(t,.sl b o m)::T,H,M⟩)(ht:get T t=some (.sl b o n):=by exact rfl)(e:n=m:=by omega):RunM c ops hot Q lq ⟨T,H,M⟩:=fun a w hs=>h a w (hs.relen ht e)
theorem qQ {x:Exit}{b o n:Nat}(t m:Nat)(h:Fin c Q x ⟨(t,.sl b o m)::T,H,M⟩)(ht:get T t=some (.sl b o n):=by exact rfl)(e:n=m:=by omega):Fin c Q x ⟨T,H,M⟩:=fun a w hs=>h a w (hs.relen ht e)
theorem Sat.shrinkF {te:TypeId}{α:Type}{e:α→List AV}{l v:List α}{b k fz n:Nat}{a:Act}{w:World}(h:Sat c ⟨T,H,M⟩ a w)(hb:hget H b=some (.row te k fz (F e l)))(hz: ∀ a,(e a).length=k)(hv:v=l.take n):Sat c ⟨T,hset H b (.row te k fz (F e v)),M⟩ a w:=by
 subst hv;exact h.shrink hb (F_takeN hz l n)
theorem f_shrink {te:TypeId}{α ρ:Type}{e:α→List AV}{l:List α}{kk:List α→Option ρ}{r:ρ}{x:Exit}{k fz n:Nat}(b:Nat)(h:(prt l 0 n).bind kk=some r)(hn: ∀ v,v.length=n→kk v=some r→Fin c Q x ⟨T,hset H b (.row te k fz (F e v)),M⟩)(hb:hget H b=some (.row te k fz (F e l)):=by exact rfl)(hz: ∀ a,(e a).length=k:=by exact fun _=>rfl):Fin c Q x ⟨T,H,M⟩:=by
 obtain ⟨v,hv,h⟩:=bind_some h;obtain ⟨h1,h2,h3⟩:=prt_some hv;exact fun a w hs=>hn v h3 h a w (hs.shrinkF hb hz (by simpa using h2))
theorem l_frz (b:Nat){ob:AObj}{cs:List AV}(h:RunL c ops Q rest ⟨mapT (frzW b cs) T,mapH (frzW b cs) (hdel H b),b::M⟩)(hb:hget H b=some ob:=by exact rfl)(hcs:cellsOf ob=some cs:=by exact rfl):RunL c ops Q rest ⟨T,H,M⟩:=fun a w hs=>h a w (hs.frzW hb hcs)
theorem m_frz (b:Nat){ob:AObj}{cs:List AV}(h:RunM c ops hot Q lq ⟨mapT (frzW b cs) T,mapH (frzW b cs) (hdel H b),b::M⟩)(hb:hget H b=some ob:=by exact rfl)(hcs:cellsOf ob=some cs:=by exact rfl):RunM c ops hot Q lq ⟨T,H,M⟩:=fun a w hs=>h a w (hs.frzW hb hcs)
theorem f_frz {e:Exit}(b:Nat){ob:AObj}{cs:List AV}(h:Fin c Q e ⟨mapT (frzW b cs) T,mapH (frzW b cs) (hdel H b),b::M⟩)(hb:hget H b=some ob:=by exact rfl)(hcs:cellsOf ob=some cs:=by exact rfl):Fin c Q e ⟨T,H,M⟩:=fun a w hs=>h a w (hs.frzW hb hcs)
theorem k_nilrow {te:TypeId}{code:Code}{t:Nat}(b k:Nat)(h:Run c Q code ⟨(t,.sl b 0 0)::T,(b,.row te k 0 [])::H,M⟩)(ht:get T t=some (.pl (.slice none 0 0)):=by exact rfl)(hb:hget H b=none:=by exact rfl):Run c Q code ⟨T,H,M⟩:=Run_nilrow b k ht hb h
theorem f_nilrow {te:TypeId}{e:Exit}{t:Nat}(b k:Nat)(h:Fin c Q e ⟨(t,.sl b 0 0)::T,(b,.row te k 0 [])::H,M⟩)(ht:get T t=some (.pl (.slice none 0 0)):=by exact rfl)(hb:hget H b=none:=by exact rfl):Fin c Q e ⟨T,H,M⟩:=Fin_nilrow b k ht hb h
theorem k_nilcell {te:TypeId}{tb:TypeId}{code:Code}{b1 j:Nat}{cs:List AV}(b k:Nat)(h:Run c Q code ⟨T,hset ((b,.row te k 0 [])::H) b1 (.box tb (cs.set j (.sl b 0 0))),M⟩)(hb1:hget H b1=some (.box tb cs):=by exact rfl)(hj:cs[j]? =some (.pl (.slice none 0 0)):=by exact rfl)(hb:hget H b=none:=by exact rfl):Run c Q code ⟨T,H,M⟩:=Run_nilcell b k hb1 hj hb h
theorem l_next {ρ:Type}{x:Operand}{b p:Nat}{l:List UInt8}{o1 o2:Option ρ}{r:ρ}(h:(bif decide (p<l.length) then o1 else o2)=some r)(ht:decide (p<l.length)=true→o1=some r→RunL c ops Q rest ⟨(d,.tup [B true,I (p:Int),.pl (.int .i32 ((dec l p).1:Int))])::T,hset H b (.siter ⟨l.toArray⟩ (p+(dec l p).2)),M⟩)
 (hf:decide (p<l.length)=false→o2=some r→RunL c ops Q rest ⟨(d,.tup [B false])::T,H,M⟩) (hx:opv T x=some (.it b):=by exact rfl) (hb:hget H b=some (.siter ⟨l.toArray⟩ p):=by exact rfl) (hdo:dstOk c.N (some d)=true:=by exact rfl):RunL c ops Q (⟨some d,.next x true,ty,pos,af,none⟩::rest) ⟨T,H,M⟩:=by
 rcases cond_some h with ⟨e,h⟩|⟨e,h⟩
 ·refine Jd (s:=⟨T,H,M⟩) (e_next hx hb (by have:=of_decide_eq_true e;exact this) hdo) rfl ?_
  rw [dec_eq]
  exact ht e h
 ·exact Jd (s:=⟨T,H,M⟩) (e_next_end hx hb (by have:=of_decide_eq_false e;exact this) hdo) rfl (hf e h)
theorem ret_xL {P:Program}{U:List (Nat×TI)}{hU:TabOk P U}{F:Nat→Prop}{β:Emb}{w0:World}{N:Nat}{fn:Func}{H':List (Nat×AObj)}{Nm mv:List Nat}{r r' r2:AV}(σ:List (Nat×Nat))
 (hN: ∀ b p,β b=some p→mem b Nm=true) (hres:resAV U T H fn.results.toList=some r') (hle:AV.Le r' r2) (hσ:okS σ=true) (hr:r2.mapN (reL σ)=r) (hH:pickS σ σ H=some H') (hM:okM σ M mv Nm=true) {a:Act} {w:World} (hs:Sat ⟨P,U,hU,F,β,w0,N,[]⟩ ⟨T,H,M⟩ a w):
 a.defers=[]∧ ∃ v,(results fn a.tmps).run P w= .ok v w∧Rpost (fun x H'' M'=>x=r∧H''=H'∧M'=mv) F β w0 (.returned v) w:=by
 obtain ⟨β',hs⟩:=hs;obtain ⟨u,hu,hv⟩:=run_results hs hres
 have hv:=hle _ _ _ _ hv
 have hO: ∀ k,off F (reB σ β') k→off F β' k∨w.heap.size≤k:=fun k hk=> .inl (hk.imp id reB_own)
 refine ⟨hs.defers,u,hu,r,u,H',mv,reB σ β',rfl,⟨rfl,rfl,rfl⟩,hs.heap.re hσ hH,?_,?_,fun b p hp hm=> ?_⟩
 ·rw [←hr];exact VRel.mapN (Nat.le_refl _) hO (fun _ _ _=>rfl) (reL_rel hσ) hv
 ·exact ⟨hs.keeps.os,hs.keeps.tape,hs.keeps.output,hs.keeps.size,hs.keeps.block,fun k hk=>hs.keeps.grows k (reB_own hk)⟩
 ·obtain ⟨h1,h2⟩:=okM_get hM (hN b p hp) hm;exact Qq.2 ⟨b,lk_rk hσ h1,hs.stay b p hp h2⟩
theorem k_retN {ρ:Type}{P:Program}{U:List (Nat×TI)}{hU:TabOk P U}{F:Nat→Prop}{β:Emb}{w0:World}{N:Nat}{fn:Func}{H':ρ→List (Nat×AObj)}{Nm mv:List Nat}{v r:ρ}{E:ρ→AV}{r':AV}(σ:List (Nat×Nat))
 (hN: ∀ b p,β b=some p→mem b Nm=true) (h:some v=some r) (hres:resAV U T H fn.results.toList=some r':=by exact rfl) (hr:(nilN r').mapN (reL σ)=E v:=by exact rfl) (hσ:okS σ=true:=by exact rfl) (hH:pickS σ σ H=some (H' v):=by exact rfl) (hM:okM σ M mv Nm=true:=by exact rfl):
 Fin ⟨P,U,hU,F,β,w0,N,[]⟩ (bodyPost P fn (Rpost (fun x H'' M'=>x=E r∧H''=H' r∧M'=mv) F β w0)) .ret ⟨T,H,M⟩:=by
 cases h
 exact fun a w hs=>ret_xL σ hN hres (nilN_le _) hσ hr hH hM hs
theorem k_nd {x:Operand}{p q:Code}{b:Bool}(ht:b=true→Run c Q p ⟨T,H,M⟩)(hf:b=false→Run c Q q ⟨T,H,M⟩)(hx:opv T x=some (.pl (.bool b)):=by exact rfl):Run c Q (.cond x p q) ⟨T,H,M⟩:=by
 cases b with
 |true=>exact Run_cond_true hx (ht rfl)
 |false=>exact Run_cond_false hx (hf rfl)
theorem J0 {ρ:Type}{n m:Nat}{kk:Unit→Option ρ}{r:ρ}(h:(eqn n m).bind kk=some r)(hn:n=m→kk ()=some r→RunL c ops Q rest ⟨T,H,M⟩):RunL c ops Q rest ⟨T,H,M⟩:=by
 obtain ⟨u,hv,h⟩:=bind_some h;exact hn (eqn_some hv) h
theorem l_eqnil {t t':TypeId}{x:Operand}{cs:List AV}{n:Nat}{ti:TI}{e:TypeId}(hn: ∀ b:Bool,(b=true→n=0)→RunL c ops Q rest ⟨(d,.pl (.bool b))::T,H,M⟩)(ht:tget c.U t=some ti:=by exact rfl)(htd:ti.desc= .slice e:=by exact rfl)(hx:opv T x=some (.vs n cs):=by exact rfl)(hdo:dstOk c.N (some d)=true:=by exact rfl):RunL c ops Q (⟨some d,.binOp .eql t x (.const (.slice none 0 0)) t',ty,pos,af,none⟩::rest) ⟨T,H,M⟩:=RL_eqnil ht htd hx rfl hdo hn
theorem gs {o:Oper}{s:St}(h:RunS c ops hot Q i0 o lq s)(hi:ops[i0]? =some o:=by (simp only [List.getElem?_toArray,List.getElem?_cons_zero,List.getElem?_cons_succ];exact rfl)):RunM c ops hot Q (.s i0 lq) s:=RunM_gets hi h
theorem geq {o:Oper}{s:St}(h:RunN c ops hot Q i0 false o lq s)(hi:ops[i0]? =some o:=by (simp only [List.getElem?_toArray,List.getElem?_cons_zero,List.getElem?_cons_succ];exact rfl)):RunM c ops hot Q (.e i0 lq) s:=by
 intro a w hs
 have h1:=RunM_getq hi h a w hs
 simp only [wpMix,hi] at h1
 obtain ⟨v,hy,hn⟩:=h1;exact hy.wpOp hi (RowKit.Below.refl _ _) ⟨.inr (RowKit.Below.refl _ _),hn⟩
theorem zW {x y:Plan}{s:St}(h1:RunM c ops hot Q (.e i0 x) s)(h2:RunM c ops hot Q y s):RunM c ops hot Q (.alt i0 x y) s:=RunM_alt h1 h2
theorem x_move {x:Operand}{ax:AV}(hnext:RunM c ops hot Q lq ⟨(d,ax)::T,H,M⟩)(hx:opv T x=some ax:=by exact rfl)(hdo:dstOk c.N (some d)=true:=by exact rfl):RunS c ops hot Q i0 ⟨some d,.move x,ty,pos,af,none⟩ lq ⟨T,H,M⟩:=RunS_q (s:=⟨T,H,M⟩) (s_move hx) rfl hdo hnext
theorem x_fieldAddr {t:TypeId}{x:Operand}{i:Nat}{ax ay:AV}{ti fi:TI}{fs:Array Field}{f:Field}(hnext:RunM c ops hot Q lq ⟨(d,ay)::T,H,M⟩)(ht:tget c.U t=some ti:=by exact rfl)(hd:ti.desc= .struct fs:=by exact rfl)(hf:fs[i]? =some f:=by exact rfl)(hft:tget c.U f.type=some fi:=by exact rfl)(hne:Nat.beq fi.size 0=false:=by exact rfl)(hx:opv T x=some ax:=by exact rfl)(hy:addrOff ax f.offset=some ay:=by exact rfl)(hdo:dstOk c.N (some d)=true:=by exact rfl):RunS c ops hot Q i0 ⟨some d,.fieldAddr t x i,ty,pos,af,none⟩ lq ⟨T,H,M⟩:=RunS_q (s:=⟨T,H,M⟩) (s_fieldAddr ht hd hf hft hne hx hy) rfl hdo hnext
theorem x_nilCheck {x:Operand}{ax ay:AV}(hnext:RunM c ops hot Q lq ⟨(d,ax)::T,H,M⟩)(hx:opv T x=some ax:=by exact rfl)(hy:addrOff ax 0=some ay:=by exact rfl)(hdo:dstOk c.N (some d)=true:=by exact rfl):RunS c ops hot Q i0 ⟨some d,.nilCheck x,ty,pos,af,none⟩ lq ⟨T,H,M⟩:=RunS_q (s:=⟨T,H,M⟩) (s_nilCheck hx hy) rfl hdo hnext
end
end Go.Abs
namespace W
variable {α:Type}
structure Tot (cmp:α→α→Option Int) (cf:α→α→Int):Prop where
 val: ∀ x y,cmp x y=some (cf x y)
 irrefl: ∀ x,¬ cf x x<0
 trans: ∀ x y z,cf x y<0→cf y z<0→cf x z<0
 ntrans: ∀ x y z,¬ cf x y<0→ ¬ cf y z<0→ ¬ cf x z<0
 anti: ∀ x y,¬ cf x y<0→ ¬ cf y x<0→x=y
theorem z7 {l:List α}{i:Nat}(h:i<l.length):at' l (i:Int)=some l[i]:=by rw [Q1,List.getElem?_eq_getElem h]
theorem put_of {l:List α}{i:Nat}(h:i<l.length)(x:α):put l (i:Int) x=some (l.set i x):=by
 unfold put
 rw [show decide (0≤(i:Int)∧(i:Int)<(l.length:Int))=true by simp;omega];rfl
theorem w64_nat {n:Nat}(h:n<9223372036854775808):w64 (n:Int)=(n:Int):=qv (by omega)
theorem qb {j:Nat}(h2:j<9223372036854775807):w64 ((j:Int)+1)=((j+1:Nat):Int):=by rw [qv (by omega)];omega
theorem rng_of {n i j:Int}(h:0≤i∧i≤j∧j≤n):rng n i j=some ():=by simp [rng,h]
theorem prt_of {l:List α}{o n:Nat}(h:o+n≤l.length):prt l o n=some ((l.drop o).take n):=by simp [prt,h]
theorem eqn_of {n m:Nat}(h:n=m):eqn n m=some ():=by subst h;simp [eqn]
theorem mk_of {sz:Nat}{n:Int}(z:α)(h:0≤n∧n*sz≤281474976710656∧n≤9223372036854775807):mk sz n z=some (List.replicate n.toNat z):=by simp [mk,h]
end W
set_option linter.unusedSimpArgs false
namespace Go.Abs
open Go Go.RowKit Go.Proofs W
variable [GTab]
section
variable {c:Ctx} {s:St} {d:Option Tmp} {ty:TypeId} {pos:String} {af:Array Edge} {g:Option (Nat×Bool)}
end
section
variable {c:Ctx} {s:St} {d:Option Tmp} {ty:TypeId} {pos:String} {af:Array Edge} {g:Option (Nat×Bool)}
end
section
variable {c:Ctx} {Q:Exit→Act→World→Prop} {T:List (Nat×AV)} {H:List (Nat×AObj)} {M:List Nat} {ops:Array Oper} {rest:List Oper} {d:Tmp} {ty:TypeId} {pos:String} {af:Array Edge}
theorem l_to {N:List Nat}(σ:List (Nat×Nat))(S:St)(hB: ∀ b p,c.β0 b=some p→mem b N=true)(h:RunL c ops Q rest S)
 (hσ:okS σ=true:=by exact rfl) (hH:pickS σ σ H=some S.H:=by exact rfl) (hT:Sub S.T (mapT (reL σ) T):=by (repeat' first|exact True.intro|exact rfl|exact get_fn rfl (And.left (by assumption))|apply And.intro)) (hM:okM σ M S.M N=true:=by exact rfl):
 RunL c ops Q rest ⟨T,H,M⟩:=fun a w hs=>h a w (hs.to σ hσ hH hT hB hM)
end
end Go.Abs
set_option linter.unusedSimpArgs false
namespace Go.Abs
open Go Go.RowKit Go.Proofs W
variable [GTab]
section
variable {c:Ctx} {Q:Exit→Act→World→Prop} {T:List (Nat×AV)} {H:List (Nat×AObj)} {M:List Nat} {ops:Array Oper} {rest:List Oper} {hot:List Nat} {lq:Plan}
theorem HRel.same {F:Nat→Prop}{β:Emb}{H H':List (Nat×AObj)}{w:World}(h:HRel F β H w)(e: ∀ b,hget H' b=hget H b):HRel F β H' w:=
 ⟨fun b o ho=>h.obj b o (by rw [←e];exact ho),fun b p hp=>by rw [e];exact h.dom b p hp,h.inj,h.fresh,h.apart,h.glob⟩
theorem Sat.relenc {tb:TypeId}{a:Act}{w:World}{b1 j b o n m:Nat}{cs:List AV}(h:Sat c ⟨T,H,M⟩ a w)(hb1:hget H b1=some (.box tb cs))(hj:cs[j]? =some (.sl b o n))(e:n=m):Sat c ⟨T,hset H b1 (.box tb (cs.set j (.sl b o m))),M⟩ a w:=by
 subst e
 obtain ⟨β,hs⟩:=h
 have hcs:cs.set j (.sl b o n)=cs:=by
  apply List.ext_getElem?
  intro i
  by_cases hi:j=i
  ·subst hi;rw [List.getElem?_set_self (List.getElem?_eq_some_iff.1 hj).1,hj]
  ·rw [List.getElem?_set_ne hi]
 refine ⟨β,hs.defers,hs.size,hs.heap.same fun b'=> ?_,hs.slot,hs.keeps,hs.stay⟩
 rw [hget_hset,hcs]
 by_cases hb:b1=b'
 ·subst hb;rw [if_pos rfl,hb1]
 ·rw [if_neg hb]
theorem f_relenc {tb:TypeId}{ex:Exit}{b o n:Nat}{cs:List AV}(b1 j m:Nat)(h:Fin c Q ex ⟨T,hset H b1 (.box tb (cs.set j (.sl b o m))),M⟩)(hb1:hget H b1=some (.box tb cs):=by exact rfl)(hj:cs[j]? =some (.sl b o n):=by exact rfl)(e:n=m:=by omega):Fin c Q ex ⟨T,H,M⟩:=fun a w hs=>h a w (hs.relenc hb1 hj e)
theorem l_nilt {x:AV}(t:Nat)(h:RunL c ops Q rest ⟨(t,nilN x)::T,H,M⟩)(ht:get T t=some x:=by exact rfl):RunL c ops Q rest ⟨T,H,M⟩:=fun a w hs=>h a w (hs.weak ht (nilN_le x))
theorem m_nilt {x:AV}(t:Nat)(h:RunM c ops hot Q lq ⟨(t,nilN x)::T,H,M⟩)(ht:get T t=some x:=by exact rfl):RunM c ops hot Q lq ⟨T,H,M⟩:=fun a w hs=>h a w (hs.weak ht (nilN_le x))
theorem l_nilcell {te:TypeId}{tb:TypeId}{b1 j:Nat}{cs:List AV}(b k:Nat)(h:RunL c ops Q rest ⟨T,hset ((b,.row te k 0 [])::H) b1 (.box tb (cs.set j (.sl b 0 0))),M⟩)(hb1:hget H b1=some (.box tb cs):=by exact rfl)(hj:cs[j]? =some (.pl (.slice none 0 0)):=by exact rfl)(hb:hget H b=none:=by exact rfl):RunL c ops Q rest ⟨T,H,M⟩:=fun a w hs=>h a w (hs.nilcell b k hb1 hj hb)
theorem f_nilcell {te:TypeId}{tb:TypeId}{e:Exit}{b1 j:Nat}{cs:List AV}(b k:Nat)(h:Fin c Q e ⟨T,hset ((b,.row te k 0 [])::H) b1 (.box tb (cs.set j (.sl b 0 0))),M⟩)(hb1:hget H b1=some (.box tb cs):=by exact rfl)(hj:cs[j]? =some (.pl (.slice none 0 0)):=by exact rfl)(hb:hget H b=none:=by exact rfl):Fin c Q e ⟨T,H,M⟩:=fun a w hs=>h a w (hs.nilcell b k hb1 hj hb)
end
theorem lift_x {P:Program}{k:FuncId}{args:List Value}{r:Value}(hf: ∀ (es:Array Value) (w:World),(callFunc k es).run P w= .ok (.enter k es) w)
 (h: ∀ w:World,(∀ g∈GTab.ints,∃ n:Int,w.cell? ⟨g,0,none⟩=some (.int .i64 n))→Calls P k args.toArray w fun e w'=>e= .returned r∧w'=w):XSpec P k (args.map AV.pl) [] (.pl r) [] []:=by
 refine ⟨hf,fun F β w vs hH hA=> ?_⟩
 have hvs:vs=args:=by
  apply List.ext_getElem?
  intro i
  have hl:(args.map AV.pl).length=vs.length:=hA.1
  by_cases hi:i<args.length
  ·have hi2:i<vs.length:=by rw [←hl];simpa using hi
   rw [List.getElem?_eq_getElem hi,List.getElem?_eq_getElem hi2]
   have:=(hA.2 i (AV.pl args[i]) vs[i] (by simp [hi]) (List.getElem?_eq_getElem hi2)).pl_eq
   rw [this]
  ·rw [List.getElem?_eq_none (l:=vs) (by rw [←hl];simp;omega),List.getElem?_eq_none (l:=args) (by omega)]
 subst hvs
 have hn: ∀ b,β b=none:=fun b=>by
  cases hb:β b with
  |none=>rfl
  |some p=>obtain ⟨o,ho⟩:=hH.dom b p hb;cases ho
 refine Calls.mono (h w fun g hg=> ?_) ?_
 ·obtain ⟨_,_,n,t,fr,hw⟩:=hH.glob.int g hg;exact ⟨n,by simp [World.cell?,hw]⟩
 ·rintro e w' ⟨rfl,rfl⟩
  exact ⟨_,_,[],[],β,rfl,⟨rfl,rfl,rfl⟩,hH,.c (.pl _),Keeps.refl _ _,fun b p hp=>(by rw [hn b] at hp;cases hp)⟩
end Go.Abs
namespace W
variable {κ ν:Type} [DecidableEq κ]
def mget:List (κ×ν)→κ→Option ν
 |[],_=>none
 |(a,v)::r,k=>if k=a then some v else mget r k
def mput:List (κ×ν)→κ→ν→List (κ×ν)
 |[],k,v=>[(k,v)]
 |(a,x)::r,k,v=>if k=a then (k,v)::r else (a,x)::mput r k v
end W
namespace W
def enc (r:Int):Str:=
 let c:=if 0≤r∧validRune r.toNat=true then r.toNat else 0xFFFD
 if c<0x80 then [UInt8.ofNat c]
 else if c<0x800 then [UInt8.ofNat (0xC0+c / 64),UInt8.ofNat (0x80+c % 64)]
 else if c<0x10000 then [UInt8.ofNat (0xE0+c / 4096),UInt8.ofNat (0x80+c / 64 % 64),UInt8.ofNat (0x80+c % 64)]
 else [UInt8.ofNat (0xF0+c / 262144),UInt8.ofNat (0x80+c / 4096 % 64),UInt8.ofNat (0x80+c / 64 % 64),UInt8.ofNat (0x80+c % 64)]
def unsf (l:Str):Option Str:=if l.length≤9223372036854775807 then some l else none
theorem unsf_some {l v:Str}(h:unsf l=some v):l.length≤9223372036854775807∧v=l:=by
 unfold unsf at h
 split at h
 ·cases h;exact ⟨by assumption,rfl⟩
 ·cases h
def mnz (n:Int):Option Nat:=if 0≤n∧n≤281474976710656 then some n.toNat else none
theorem mnz_some {n:Int}{v:Nat}(h:mnz n=some v):(0≤n∧n≤281474976710656)∧v=n.toNat:=by
 unfold mnz at h
 split at h
 ·cases h;exact ⟨by assumption,rfl⟩
 ·cases h
def atA {α:Type}(n:Nat)(l:List α)(i:Int):Option α:=if 0≤i∧i<n then l[i.toNat]? else none
theorem atA_some {α:Type}{n:Nat}{l:List α}{i:Int}{a:α}(h:atA n l i=some a):(0≤i∧i<n)∧at' l i=some a:=by
 unfold atA at h
 split at h
 ·rename_i hi
  refine ⟨hi,?_⟩;unfold at'
  rw [decide_eq_true hi.1];exact h
 ·cases h
def ne0 {α:Type}(l:List α):Option Unit:=if 0<l.length then some () else none
theorem ne0_some {α:Type}{l:List α}{u:Unit}(h:ne0 l=some u):0<l.length:=by
 unfold ne0 at h
 split at h
 ·assumption
 ·cases h
theorem swapB {α β γ:Type}{a:Option α}{b:Option β}{k:α→β→Option γ}{r:γ}(h:(a.bind fun x=>b.bind fun y=>k x y)=some r):(b.bind fun y=>a.bind fun x=>k x y)=some r:=by
 cases a<;>cases b<;>first|exact h|cases h
def ins {α:Type}(sz:Nat)(l:List α)(i:Int)(v:List α):Option (List α):=
 bif decide (0≤i∧i.toNat≤l.length∧(l.length+v.length)*sz≤140737488355328) then some (l.take i.toNat++v++l.drop i.toNat) else none
theorem ins_some {α:Type}{sz:Nat}{l:List α}{i:Int}{v r:List α}(h:ins sz l i v=some r):(0≤i∧i.toNat≤l.length∧(l.length+v.length)*sz≤140737488355328)∧r=l.take i.toNat++v++l.drop i.toNat:=by
 unfold ins at h
 cases e:decide (0≤i∧i.toNat≤l.length∧(l.length+v.length)*sz≤140737488355328) with
 |false=>rw [e] at h;cases h
 |true=>rw [e] at h;cases h;exact ⟨of_decide_eq_true e,rfl⟩
end W
set_option linter.unusedSimpArgs false
namespace Go.Abs
open Go Go.RowKit Go.Proofs W
variable [GTab]
structure KeyK (κ:Type) [DecidableEq κ] (kd:TypeDesc) (kv:κ→Value):Prop where
 same: ∀ a b,Instr.sameNow kd (kv a) (kv b)=some (decide (a=b))
 bits: ∀ a,Instr.sameBits 10000 (kv a) (kv a)=true
 one: ∀ a,(kv a).oneCell'=true
 check: ∀ {P:Program} {t:TypeId} (e:Bool) (a:κ) (w:World),P.underlying t=some kd→(Instr.checkKey e 10000 t (kv a)).run P w= .ok () w
theorem keyS:KeyK Str .string (fun s=> .string ⟨s.toArray⟩) where
 same a b:=by
  have e:((⟨a.toArray⟩:ByteArray)==⟨b.toArray⟩)=(a.toArray==b.toArray):=rfl
  show some ((⟨a.toArray⟩:ByteArray)==⟨b.toArray⟩)=_
  rw [e]
  congr 1
  by_cases h:a=b
  ·subst h;simp
  ·rw [decide_eq_false h,beq_eq_false_iff_ne]
   intro e
   exact h (by simpa using congrArg Array.toList e)
 bits a:=by
  have e:((⟨a.toArray⟩:ByteArray)==⟨a.toArray⟩)=(a.toArray==a.toArray):=rfl
  show ((⟨a.toArray⟩:ByteArray)==⟨a.toArray⟩)=true
  rw [e];simp
 one a:=rfl
 check e a w h:=MapKept.run_checkKey (n:=9999) h (by simp [MapKept.IsKey]) e
section
variable {κ ν:Type} [DecidableEq κ] {kd:TypeDesc} {kv:κ→Value}
theorem findNow_eq (K:KeyK κ kd kv)(k:κ): ∀ (m:List (κ×ν)) (es:List MapEntry) (i:Nat),es.map (·.key)=m.map (fun x=>kv x.1)→
 (∃ j e,Instr.findNow kd (kv k) es i=some (some (i+j,e.val))∧es[j]? =some e∧(∃ v,m[j]? =some (k,v)∧mget m k=some v)∧ ∀ v',mput m k v'=m.set j (k,v'))∨
 (Instr.findNow kd (kv k) es i=some none∧mget m k=none∧ ∀ v',mput m k v'=m++[(k,v')])
 |[],[],i,_=> .inr ⟨rfl,rfl,fun _=>rfl⟩
 |[],e::es,i,h=>by simp at h
 |x::m,[],i,h=>by simp at h
 |(a,x)::m,e::es,i,h=>by
  simp only [List.map_cons,List.cons.injEq] at h
  have hs:=K.same k a
  rw [←h.1] at hs
  by_cases hk:k=a
  ·subst hk
   rw [decide_eq_true rfl] at hs
   refine .inl ⟨0,e,?_,rfl,⟨x,rfl,by simp [mget]⟩,fun v'=>by simp [mput]⟩
   simp only [Instr.findNow,hs,Nat.add_zero]
  ·rw [decide_eq_false hk] at hs
   rcases findNow_eq K k m es (i+1) h.2 with ⟨j,e',h1,h2,⟨v,h3,h4⟩,h5⟩|⟨h1,h2,h3⟩
   ·refine .inl ⟨j+1,e',?_,h2,⟨v,h3,by simp [mget,hk,h4]⟩,fun v'=>by simp [mput,hk,h5]⟩
    simp only [Instr.findNow,hs,h1]
    congr 3;omega
   ·refine .inr ⟨?_,by simp [mget,hk,h2],fun v'=>by simp [mput,hk,h3]⟩
    simp only [Instr.findNow,hs,h1]
end
section
variable {c:Ctx} {s:St} {d:Option Tmp} {ty:TypeId} {pos:String} {af:Array Edge} {g:Option (Nat×Bool)}
theorem CRel.pl_eq {O:Nat→Prop}{w:World}{u v:Value}(h:CRel O w (.pl u) v):v=u:=by
 generalize hx:AV.pl u=x at h
 cases h<;>cases hx
 rfl
theorem VRel.mp_inv {F:Nat→Prop}{β:Emb}{w:World}{v:Value}{b:Nat}(h:VRel F β w (.mp b) v): ∃ p,β b=some p∧p.nil=false∧v= .map (some p.blk):=by
 cases h with
 |mp hp hn=>exact ⟨_,hp,hn,rfl⟩
 |c h=>cases h
theorem run_getMap {P:Program}{w:World}{r:Nat}{ms:Array MapEntry}{ck:Nat}(h:w.heap[r]? =some (.map ms ck)):(getObj r).run P w= .ok (.map ms ck) w:=by simp only [getObj,Sem.run,h]
theorem run_setMap {P:Program}{w:World}{r:Nat}{ms:Array MapEntry}{ck:Nat}{o:Obj}(h:w.heap[r]? =some (.map ms ck)):(setObj r o).run P w= .ok () {w with heap:=w.heap.setIfInBounds r o}:=by simp only [setObj,Sem.run,h]
theorem e_makeMap {t:TypeId}{r:Option Operand}(hr:r=none)(hb:hget s.H (nm d)=none)(hd:dstOk c.N d=true):
 EOpB c ⟨d,.makeMap t r,ty,pos,af,g⟩ s ⟨putT s.T d (.mp (nm d)),(nm d,.map [])::s.H,s.M⟩:=by
 subst hr
 intro a w β hs
 let p:Place:=⟨w.heap.size,0,0,0,false⟩
 have hs':=hs.newobj (w':=w.alloc (.map #[] 0)) hb p (.inr trivial) (fun _=>⟨Nat.le_refl _,by simp [p]⟩) (But.alloc _ _) (o:= .map [])
  ⟨rfl,#[],0,qJ w _,rfl,fun i x e hx=>by simp at hx,fun i j e e' h=>by simp at h⟩
 refine ⟨_,_,Zv _ _,.map (some w.heap.size),?_,hs'.put hd (.mp (p:=p) (by simp [upd]) rfl)⟩
 simp [execOp,Instr.makeMap]
theorem ent_keys {κ ν:Type}{kv:κ→Value}{ev:ν→AV}{O:Nat→Prop}{w:World}{m:List (κ×ν)}{ms:Array MapEntry}{ck:Nat}(hl:(m.map fun x=>(AV.pl (kv x.1),ev x.2)).length=ms.size)
 (h: ∀ (i:Nat) (x:AV×AV) (e:MapEntry),(m.map fun x=>(AV.pl (kv x.1),ev x.2))[i]? =some x→ms[i]? =some e→CRel O w x.1 e.key∧CRel O w x.2 e.val∧e.born<ck):ms.toList.map (·.key)=m.map fun x=>kv x.1:=by
 apply List.ext_getElem?
 intro i
 rw [List.getElem?_map,List.getElem?_map,Array.getElem?_toList]
 by_cases hi:i<m.length
 ·have hi2:i<ms.size:=by rw [←hl];simpa using hi
  rw [List.getElem?_eq_getElem hi,Array.getElem?_eq_getElem hi2]
  have:=(h i (AV.pl (kv m[i].1),ev m[i].2) ms[i] (by simp [hi]) (Array.getElem?_eq_getElem hi2)).1
  simp only [Option.map_some]
  rw [CRel.pl_eq this]
 ·rw [List.getElem?_eq_none (by omega),Array.getElem?_eq_none (by rw [←hl];simpa using hi)];rfl
section
variable {κ ν:Type} [DecidableEq κ] {kd:TypeDesc} {kv:κ→Value} {ev:ν→AV}
theorem map_put (K:KeyK κ kd kv){t kt et:TypeId}{a:Act}{w:World}{β:Emb}{v1 v2 v3:Value}{b:Nat}{m:List (κ×ν)}{k:κ}{v:ν}{ti ki:TI}(hs:SatB c s β a w)(ht:tget c.U t=some ti)(htd:ti.desc= .map kt et)(hkt:tget c.U kt=some ki)(hkd:ki.desc=kd)
 (hx:VRel c.F β w (.mp b) v1) (hb:hget s.H b=some (.map (m.map fun x=>(AV.pl (kv x.1),ev x.2)))) (hy:v2=kv k) (hv3:CRel (off c.F β) w (ev v) v3):
 ∃ w',(Instr.mapUpdate t v1 v2 v3).run c.P w= .ok () w'∧SatB c ⟨s.T,hset s.H b (.map ((mput m k v).map fun x=>(AV.pl (kv x.1),ev x.2))),s.M⟩ β a w':=by
 subst hy
 have hu:c.P.underlying t=some (.map kt et):=(zx ht).trans (congrArg some htd)
 have huk:c.P.underlying kt=some kd:=(zx hkt).trans (congrArg some hkd)
 obtain ⟨p,hp,hn,rfl⟩:=hx.mp_inv;obtain ⟨p',hp',hr⟩:=hs.heap.obj b _ hb
 rw [hp] at hp';cases hp'
 obtain ⟨_,ms,ck,hheap,hlen,hent,hborn⟩:=hr
 have hlt:p.blk<w.heap.size:=(Array.getElem?_eq_some_iff.1 hheap).1
 have hkeys:=ent_keys hlen hent
 have hlen':m.length=ms.size:=by simpa using hlen
 have hO: ∀ b,off c.F β b→off c.F β b∨w.heap.size≤b:=fun _ h=> .inl h
 rcases findNow_eq K k m ms.toList 0 hkeys with ⟨j,e,h1,h2,⟨v0,h3,h4⟩,h5⟩|⟨h1,h2,h5⟩
 ·have hj:j<ms.size:=by
   have:=(List.getElem?_eq_some_iff.1 h2).1;simpa using this
  have hek:e.key=kv k:=CRel.pl_eq (hent j (AV.pl (kv k),ev v0) e (by rw [List.getElem?_map,h3];rfl) (by simpa using h2)).1
  have hbut:=But.setObj w p.blk (.map (ms.modify j fun e=>{e with key:=kv k,val:=v3}) ck)
  have hw: ∀ q,q<w.heap.size→ ¬ off c.F β q→({w with heap:=w.heap.setIfInBounds p.blk (.map (ms.modify j fun e=>{e with key:=kv k,val:=v3}) ck)}:World).heap[q]? =w.heap[q]? :=fun q hq hno=>hbut.block q hq (fun e=>hno (.inr ⟨b,p,hp,hn,e.symm⟩))
  refine ⟨_,?_,hs.setobj hp hn hbut (o:= .map ((mput m k v).map fun x=>(AV.pl (kv x.1),ev x.2))) ⟨hn,ms.modify j fun e=>{e with key:=kv k,val:=v3},ck,by simp [hlt],by rw [h5];simpa using hlen',fun i x e' hx he'=> ?_,fun i i' e1 e2 h1' h2' hb'=> ?_⟩⟩
  ·have hge:ms[j]? =some e:=by simpa using h2
   simp [Instr.mapUpdate,run_underlying hu,run_getMap hheap,K.check _ _ _ huk,Instr.findKey,run_underlying huk,h1,hge,hek,Instr.keyThatStays,K.bits,run_setMap hheap,Result.andThen]
  ·rw [h5,List.getElem?_map] at hx
   rw [Array.getElem?_modify] at he'
   by_cases hij:j=i
   ·subst hij
    rw [List.getElem?_set_self (by omega)] at hx
    simp only [Option.map_some,Option.some.injEq] at hx
    subst hx
    have hge:ms[j]? =some e:=by simpa using h2
    rw [if_pos rfl,hge] at he'
    simp only [Option.map_some,Option.some.injEq] at he'
    subst he'
    exact ⟨.pl _,hv3.mono hbut.size hO hw,(hent j (AV.pl (kv k),ev v0) e (by rw [List.getElem?_map,h3];rfl) hge).2.2⟩
   ·rw [List.getElem?_set_ne hij] at hx
    rw [if_neg hij] at he'
    obtain ⟨q1,q2,q3⟩:=hent i x e' (by rw [List.getElem?_map];exact hx) he';exact ⟨q1.mono hbut.size hO hw,q2.mono hbut.size hO hw,q3⟩
  ·have key: ∀ {i:Nat} {e':MapEntry},(ms.modify j fun e=>{e with key:=kv k,val:=v3})[i]? =some e'→ ∃ e0,ms[i]? =some e0∧e0.born=e'.born:=fun {i e'} h=>by
    rw [Array.getElem?_modify] at h
    by_cases hij:j=i
    ·rw [if_pos hij] at h
     obtain ⟨e0,h0,rfl⟩:=Option.map_eq_some_iff.1 h;exact ⟨e0,h0,rfl⟩
    ·rw [if_neg hij] at h;exact ⟨e',h,rfl⟩
   obtain ⟨a1,b1,c1⟩:=key h1';obtain ⟨a2,b2,c2⟩:=key h2';exact hborn i i' a1 a2 b1 b2 (by rw [c1,c2];exact hb')
 ·have hbut:=But.setObj w p.blk (.map (ms.push {key:=kv k,val:=v3,born:=ck}) (ck+1))
  have hw: ∀ q,q<w.heap.size→ ¬ off c.F β q→({w with heap:=w.heap.setIfInBounds p.blk (.map (ms.push {key:=kv k,val:=v3,born:=ck}) (ck+1))}:World).heap[q]? =w.heap[q]? :=fun q hq hno=>hbut.block q hq (fun e=>hno (.inr ⟨b,p,hp,hn,e.symm⟩))
  have hbn: ∀ {i:Nat} {e':MapEntry},ms[i]? =some e'→e'.born<ck:=fun {i e'} h=>by
   have hi:i<m.length:=by rw [hlen'];exact (Array.getElem?_eq_some_iff.1 h).1
   exact (hent i (AV.pl (kv m[i].1),ev m[i].2) e' (by simp [hi]) h).2.2
  refine ⟨_,?_,hs.setobj hp hn hbut (o:= .map ((mput m k v).map fun x=>(AV.pl (kv x.1),ev x.2))) ⟨hn,ms.push {key:=kv k,val:=v3,born:=ck},ck+1,by simp [hlt],by rw [h5];simp [hlen'],fun i x e' hx he'=> ?_,fun i i' e1 e2 h1' h2' hb'=> ?_⟩⟩
  ·simp [Instr.mapUpdate,run_underlying hu,run_getMap hheap,K.check _ _ _ huk,Instr.findKey,run_underlying huk,h1,run_setMap hheap,Result.andThen]
  ·rw [h5,List.getElem?_map] at hx
   rw [Array.getElem?_push] at he'
   by_cases hi:i=ms.size
   ·rw [if_pos hi] at he'
    simp only [Option.some.injEq] at he'
    subst he'
    rw [List.getElem?_append_right (by omega),show i-m.length=0 by omega] at hx
    simp at hx
    subst hx
    exact ⟨.pl _,hv3.mono hbut.size hO hw,Nat.lt_succ_self _⟩
   ·rw [if_neg hi] at he'
    have hlt2:i<ms.size:=(Array.getElem?_eq_some_iff.1 he').1
    rw [List.getElem?_append_left (by omega)] at hx
    obtain ⟨q1,q2,q3⟩:=hent i x e' (by rw [List.getElem?_map];exact hx) he';exact ⟨q1.mono hbut.size hO hw,q2.mono hbut.size hO hw,Nat.lt_succ_of_lt q3⟩
  ·rw [Array.getElem?_push] at h1' h2'
   by_cases hi:i=ms.size<;>by_cases hi':i'=ms.size
   ·omega
   ·rw [if_pos hi] at h1';rw [if_neg hi'] at h2'
    cases h1'
    have:=hbn h2'
    simp only at hb';omega
   ·rw [if_neg hi] at h1';rw [if_pos hi'] at h2'
    cases h2'
    have:=hbn h1'
    simp only at hb';omega
   ·rw [if_neg hi] at h1';rw [if_neg hi'] at h2'
    exact hborn i i' e1 e2 h1' h2' hb'
theorem e_mapUpdate (K:KeyK κ kd kv){t kt et:TypeId}{x y z:Operand}{b:Nat}{m:List (κ×ν)}{k:κ}{v:ν}{ti ki:TI}(op:Op)(hop:op= .mapUpdate t x y z∨op= .insert t x y z)(ht:tget c.U t=some ti)(htd:ti.desc= .map kt et)(hkt:tget c.U kt=some ki)(hkd:ki.desc=kd)
 (hx:opv s.T x=some (.mp b)) (hb:hget s.H b=some (.map (m.map fun x=>(AV.pl (kv x.1),ev x.2)))) (hy:opv s.T y=some (.pl (kv k))) (hz:opv s.T z=some (ev v)) (hcl:(ev v).closed=true) (hd:d=none):
 EOp c ⟨d,op,ty,pos,af,g⟩ s ⟨s.T,hset s.H b (.map ((mput m k v).map fun x=>(AV.pl (kv x.1),ev x.2))),s.M⟩:=by
 subst hd
 intro a w β hs
 have hv3:CRel (off c.F β) w (ev v) (a.eval z):=(hs.op hz).closed hcl
 obtain ⟨w',h1,h2⟩:=map_put K hs ht htd hkt hkd (hs.op hx) hb (hs.pl hy) hv3
 rcases hop with rfl|rfl
 ·exact ⟨w',β,.inr ⟨by simp [execOp,h1,Result.andThen],h2⟩⟩
 ·exact ⟨w',β,.inr ⟨by simp [execOp,h1,Result.andThen],h2⟩⟩
end
end
abbrev kS:Str→Value:=fun s=> .string ⟨s.toArray⟩
abbrev MP {κ ν:Type}(kv:κ→Value)(ev:ν→AV)(m:List (κ×ν)):List (AV×AV):=m.map fun x=>(AV.pl (kv x.1),ev x.2)
section
variable {c:Ctx} {Q:Exit→Act→World→Prop} {T:List (Nat×AV)} {H:List (Nat×AObj)} {M:List Nat} {ops:Array Oper} {rest:List Oper} {d:Tmp} {ty:TypeId} {pos:String} {af:Array Edge}
theorem l_mmake {t:TypeId}(hn:RunL c ops Q rest ⟨(d,.mp (nm (some d)))::T,(nm (some d),.map [])::H,M⟩)(hb:hget H (nm (some d))=none:=by exact rfl)(hdo:dstOk c.N (some d)=true:=by exact rfl):
 RunL c ops Q (⟨some d,.makeMap t none,ty,pos,af,none⟩::rest) ⟨T,H,M⟩:=Jd (s:=⟨T,H,M⟩) (e_makeMap rfl hb hdo).e rfl hn
theorem l_mput {κ ν:Type}[DecidableEq κ]{kd:TypeDesc}{kv:κ→Value}(K:KeyK κ kd kv){ev:ν→AV}{m:List (κ×ν)}{k:κ}(v:ν){t kt et:TypeId}{x y z:Operand}{b:Nat}{ti ki:TI}(hn:RunL c ops Q rest ⟨T,hset H b (.map (MP kv ev (mput m k v))),M⟩)(ht:tget c.U t=some ti:=by exact rfl)(htd:ti.desc= .map kt et:=by exact rfl)(hkt:tget c.U kt=some ki:=by exact rfl)(hkd:ki.desc=kd:=by exact rfl)
 (hx:opv T x=some (.mp b):=by exact rfl) (hb:hget H b=some (.map (MP kv ev m)):=by exact rfl) (hy:opv T y=some (.pl (kv k)):=by exact rfl) (hz:opv T z=some (ev v):=by exact rfl) (hcl:(ev v).closed=true:=by exact rfl):
 RunL c ops Q (⟨none,.insert t x y z,ty,pos,af,none⟩::rest) ⟨T,H,M⟩:=Jd (s:=⟨T,H,M⟩) (e_mapUpdate K _ (.inr rfl) ht htd hkt hkd hx hb hy hz hcl rfl) rfl hn
theorem l_mupd {κ ν:Type}[DecidableEq κ]{kd:TypeDesc}{kv:κ→Value}(K:KeyK κ kd kv){ev:ν→AV}{m:List (κ×ν)}{k:κ}(v:ν){t kt et:TypeId}{x y z:Operand}{b:Nat}{ti ki:TI}(hn:RunL c ops Q rest ⟨T,hset H b (.map (MP kv ev (mput m k v))),M⟩)(ht:tget c.U t=some ti:=by exact rfl)(htd:ti.desc= .map kt et:=by exact rfl)(hkt:tget c.U kt=some ki:=by exact rfl)(hkd:ki.desc=kd:=by exact rfl)
 (hx:opv T x=some (.mp b):=by exact rfl) (hb:hget H b=some (.map (MP kv ev m)):=by exact rfl) (hy:opv T y=some (.pl (kv k)):=by exact rfl) (hz:opv T z=some (ev v):=by exact rfl) (hcl:(ev v).closed=true:=by exact rfl):
 RunL c ops Q (⟨none,.mapUpdate t x y z,ty,pos,af,none⟩::rest) ⟨T,H,M⟩:=Jd (s:=⟨T,H,M⟩) (e_mapUpdate K _ (.inl rfl) ht htd hkt hkd hx hb hy hz hcl rfl) rfl hn
end
end Go.Abs
set_option linter.unusedSimpArgs false
namespace Go.Abs
open Go Go.RowKit Go.Proofs W
variable [GTab]
theorem enc_eq (r:Int):Utf8.encode r=⟨(enc r).toArray⟩:=by
 have hv:Utf8.valid r=true↔(0≤r∧W.validRune r.toNat=true):=by
  unfold Utf8.valid W.validRune
  simp only [Bool.and_eq_true,Bool.or_eq_true,decide_eq_true_eq]
  omega
 have hc:(if Utf8.valid r=true then r.toNat else Utf8.runeError)=(if 0≤r∧W.validRune r.toNat=true then r.toNat else 0xFFFD):=by
  by_cases h:Utf8.valid r=true
  ·rw [if_pos h,if_pos (hv.1 h)]
  ·rw [if_neg h,if_neg (fun e=>h (hv.2 e))];rfl
 unfold Utf8.encode enc
 simp only [hc]
 generalize (if 0≤r∧W.validRune r.toNat=true then r.toNat else 0xFFFD)=q
 by_cases h1:q<128
 ·simp [h1]
 ·by_cases h2:q<2048
  ·simp [h1,h2]
  ·by_cases h3:q<65536
   ·simp [h1,h2,h3]
   ·simp [h1,h2,h3]
section
variable {c:Ctx} {s:St} {d:Option Tmp} {ty:TypeId} {pos:String} {af:Array Edge} {g:Option (Nat×Bool)}
theorem q_istr {src dst:TypeId}{x:Operand}{k k':IntKind}{n:Int}{t1 t2:TI}(h1:tget c.U src=some t1)(hd1:t1.desc= .int k)(h2:tget c.U dst=some t2)(hd2:t2.desc= .string)(hx:opv s.T x=some (.pl (.int k' n))):QOp c ⟨d,.convert src dst x,ty,pos,af,g⟩ s (.pl (.string ⟨(enc n).toArray⟩)):=by
 intro a w β hs
 have hu1:c.P.underlying src=some (.int k):=(zx h1).trans (congrArg some hd1)
 have hu2:c.P.underlying dst=some .string:=(zx h2).trans (congrArg some hd2)
 refine ⟨_,.c (.pl _),fun w' _=> ?_⟩
 simp [execOp,convert,hs.pl hx,run_underlying hu1,run_underlying hu2,Conv.intToString,enc_eq,Result.andThen]
end
section
variable {c:Ctx} {Q:Exit→Act→World→Prop} {T:List (Nat×AV)} {H:List (Nat×AObj)} {M:List Nat} {ops:Array Oper} {rest:List Oper} {d:Tmp} {ty:TypeId} {pos:String} {af:Array Edge}
theorem l_istr {src dst:TypeId}{x:Operand}{k k':IntKind}{n:Int}{t1 t2:TI}(hn:RunL c ops Q rest ⟨(d,S (enc n))::T,H,M⟩)(h1:tget c.U src=some t1:=by exact rfl)(hd1:t1.desc= .int k:=by exact rfl)(h2:tget c.U dst=some t2:=by exact rfl)(hd2:t2.desc= .string:=by exact rfl)(hx:opv T x=some (.pl (.int k' n)):=by exact rfl)(hdo:dstOk c.N (some d)=true:=by exact rfl):
 RunL c ops Q (⟨some d,.convert src dst x,ty,pos,af,none⟩::rest) ⟨T,H,M⟩:=qi (s:=⟨T,H,M⟩) (q_istr h1 hd1 h2 hd2 hx) rfl hdo hn
end
end Go.Abs
