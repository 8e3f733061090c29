/- WALKS, printed by aw.py: that the program's functions compute the plain ones. Conditions: none. -/
import Derived.Test.YtojbjdcflgeibaaGreatDoorProg
import Derived.Test.YtojbjdcflgeibaaGreatDoorAbsM2
import Derived.Test.YtojbjdcflgeibaaGreatDoorAbsM3
import Derived.Test.YtojbjdcflgeibaaGreatDoorQPure
import Derived.Test.YtojbjdcflgeibaaGreatDoorLQWalk
import Derived.Test.YtojbjdcflgeibaaGreatDoorIQWalk
set_option linter.unusedVariables false
set_option linter.unusedSimpArgs false
set_option maxRecDepth 20000
set_option maxHeartbeats 4000000
namespace Go.Proofs.YtojbjdcflgeibaaGreatDoor
open Go Go.Abs W G
instance :GTab:=⟨[(0,(utf8First.flatMap (fun x:UInt8=>[Value.int .u8 (x.toNat:Int)]))),(1,(utf8Ranges.flatMap (fun x:QP=>[Value.int .u8 (x.lo.toNat:Int),Value.int .u8 (x.hi.toNat:Int)])))],[2],fun t=>Nat.beq t 5||Nat.beq t 6||Nat.beq t 318||Nat.beq t 319⟩
def Tryz.U:List (Nat×TI):=[
 (1,⟨.func #[] #[] false,1,8,.nilFunc⟩),
 (3,⟨.int .i64,1,8,.int .i64 0⟩),
 (4,⟨.bool,1,1,.bool false⟩),
 (5,⟨.int .u8,1,1,.int .u8 0⟩),
 (9,⟨.string,1,16,.string ⟨#[]⟩⟩),
 (12,⟨.int .u64,1,8,.int .u64 0⟩),
 (21,⟨.int .i32,1,4,.int .i32 0⟩),
 (22,⟨.slice 5,1,24,.slice none 0 0⟩),
 (24,⟨.pointer 111,1,8,.pointer none⟩),
 (25,⟨.int .i64,1,8,.int .i64 0⟩),
 (29,⟨.slice 3,1,24,.slice none 0 0⟩),
 (33,⟨.slice 48,1,24,.slice none 0 0⟩),
 (36,⟨.slice 39,1,24,.slice none 0 0⟩),
 (39,⟨.struct #[{name:= "Prefix",type:=9,offset:=0,embedded:=false,tag:= "",pkgPath:= "",byteOffset:=0},{name:= "URI",type:=9,offset:=1,embedded:=false,tag:= "",pkgPath:= "",byteOffset:=16}],2,32,.agg #[.string ⟨#[]⟩,.string ⟨#[]⟩]⟩),
 (46,⟨.slice 126,1,24,.slice none 0 0⟩),
 (48,⟨.struct #[{name:= "Kind",type:=3,offset:=0,embedded:=false,tag:= "",pkgPath:= "",byteOffset:=0},{name:= "Parent",type:=3,offset:=1,embedded:=false,tag:= "",pkgPath:= "",byteOffset:=8},{name:= "Prefix",type:=9,offset:=2,embedded:=false,tag:= "",pkgPath:= "",byteOffset:=16},{name:= "Local",type:=9,offset:=3,embedded:=false,tag:= "",pkgPath:= "",byteOffset:=32},{name:= "URI",type:=9,offset:=4,embedded:=false,tag:= "",pkgPath:= "",byteOffset:=48},{name:= "Text",type:=9,offset:=5,embedded:=false,tag:= "",pkgPath:= "",byteOffset:=64},{name:= "Decls",type:=36,offset:=6,embedded:=false,tag:= "",pkgPath:= "",byteOffset:=80},{name:= "Attrs",type:=46,offset:=7,embedded:=false,tag:= "",pkgPath:= "",byteOffset:=104}],8,128,.agg #[.int .i64 0,.int .i64 0,.string ⟨#[]⟩,.string ⟨#[]⟩,.string ⟨#[]⟩,.string ⟨#[]⟩,.slice none 0 0,.slice none 0 0]⟩),
 (51,⟨.slice 54,1,24,.slice none 0 0⟩),
 (54,⟨.struct #[{name:= "N",type:=3,offset:=0,embedded:=false,tag:= "",pkgPath:= "",byteOffset:=0},{name:= "Part",type:=3,offset:=1,embedded:=false,tag:= "",pkgPath:= "",byteOffset:=8},{name:= "I",type:=3,offset:=2,embedded:=false,tag:= "",pkgPath:= "",byteOffset:=16}],3,24,.agg #[.int .i64 0,.int .i64 0,.int .i64 0]⟩),
 (72,⟨.pointer 86,1,8,.pointer none⟩),
 (84,⟨.map 9 3,1,8,.map none⟩),
 (86,⟨.struct #[{name:= "Doc",type:=24,offset:=0,embedded:=true,tag:= "",pkgPath:= "",byteOffset:=0},{name:= "ids",type:=84,offset:=1,embedded:=false,tag:= "",pkgPath:= "apostille/ident",byteOffset:=8}],2,16,.agg #[.pointer none,.map none]⟩),
 (91,⟨.array 2 3,2,16,.agg #[.int .i64 0,.int .i64 0]⟩),
 (92,⟨.slice 91,1,24,.slice none 0 0⟩),
 (97,⟨.pointer 104,1,8,.pointer none⟩),
 (98,⟨.func #[9] #[9] false,1,8,.nilFunc⟩),
 (99,⟨.slice 194,1,24,.slice none 0 0⟩),
 (100,⟨.pointer 102,1,8,.pointer none⟩),
 (102,⟨.struct #[{name:= "addr",type:=100,offset:=0,embedded:=false,tag:= "",pkgPath:= "strings",byteOffset:=0},{name:= "buf",type:=22,offset:=1,embedded:=false,tag:= "",pkgPath:= "strings",byteOffset:=8}],2,32,.agg #[.pointer none,.slice none 0 0]⟩),
 (104,⟨.struct #[{name:= "s",type:=9,offset:=0,embedded:=false,tag:= "",pkgPath:= "apostille/parse",byteOffset:=0},{name:= "l",type:=33,offset:=1,embedded:=false,tag:= "",pkgPath:= "apostille/parse",byteOffset:=16},{name:= "path",type:=99,offset:=2,embedded:=false,tag:= "",pkgPath:= "apostille/parse",byteOffset:=40},{name:= "text",type:=102,offset:=3,embedded:=false,tag:= "",pkgPath:= "apostille/parse",byteOffset:=64},{name:= "top",type:=4,offset:=5,embedded:=false,tag:= "",pkgPath:= "apostille/parse",byteOffset:=96}],6,104,.agg #[.string ⟨#[]⟩,.slice none 0 0,.slice none 0 0,.pointer none,.slice none 0 0,.bool false]⟩),
 (107,⟨.struct #[{name:= "a",type:=24,offset:=0,embedded:=false,tag:= "",pkgPath:= "apostille/alike",byteOffset:=0},{name:= "b",type:=24,offset:=1,embedded:=false,tag:= "",pkgPath:= "apostille/alike",byteOffset:=8},{name:= "comments",type:=4,offset:=2,embedded:=false,tag:= "",pkgPath:= "apostille/alike",byteOffset:=16}],3,24,.agg #[.pointer none,.pointer none,.bool false]⟩),
 (109,⟨.func #[3] #[4] false,1,8,.nilFunc⟩),
 (111,⟨.struct #[{name:= "l",type:=33,offset:=0,embedded:=false,tag:= "",pkgPath:= "apostille/doc",byteOffset:=0},{name:= "end",type:=29,offset:=1,embedded:=false,tag:= "",pkgPath:= "apostille/doc",byteOffset:=24},{name:= "top",type:=3,offset:=2,embedded:=false,tag:= "",pkgPath:= "apostille/doc",byteOffset:=48}],3,56,.agg #[.slice none 0 0,.slice none 0 0,.int .i64 0]⟩),
 (112,⟨.pointer 114,1,8,.pointer none⟩),
 (114,⟨.struct #[{name:= "S",type:=9,offset:=0,embedded:=false,tag:= "",pkgPath:= "",byteOffset:=0},{name:= "At",type:=3,offset:=1,embedded:=false,tag:= "",pkgPath:= "",byteOffset:=16},{name:= "L",type:=33,offset:=2,embedded:=false,tag:= "",pkgPath:= "",byteOffset:=24},{name:= "Bad",type:=4,offset:=3,embedded:=false,tag:= "",pkgPath:= "",byteOffset:=48}],4,56,.agg #[.string ⟨#[]⟩,.int .i64 0,.slice none 0 0,.bool false]⟩),
 (117,⟨.slice 9,1,24,.slice none 0 0⟩),
 (120,⟨.map 9 4,1,8,.map none⟩),
 (126,⟨.struct #[{name:= "Prefix",type:=9,offset:=0,embedded:=false,tag:= "",pkgPath:= "",byteOffset:=0},{name:= "Local",type:=9,offset:=1,embedded:=false,tag:= "",pkgPath:= "",byteOffset:=16},{name:= "URI",type:=9,offset:=2,embedded:=false,tag:= "",pkgPath:= "",byteOffset:=32},{name:= "Value",type:=9,offset:=3,embedded:=false,tag:= "",pkgPath:= "",byteOffset:=48}],4,64,.agg #[.string ⟨#[]⟩,.string ⟨#[]⟩,.string ⟨#[]⟩,.string ⟨#[]⟩]⟩),
 (146,⟨.slice 21,1,24,.slice none 0 0⟩),
 (164,⟨.pointer 48,1,8,.pointer none⟩),
 (172,⟨.func #[39,39] #[3] false,1,8,.nilFunc⟩),
 (174,⟨.pointer 5,1,8,.pointer none⟩),
 (175,⟨.func #[126] #[4] false,1,8,.nilFunc⟩),
 (194,⟨.struct #[{name:= "n",type:=3,offset:=0,embedded:=false,tag:= "",pkgPath:= "apostille/parse",byteOffset:=0},{name:= "name",type:=9,offset:=1,embedded:=false,tag:= "",pkgPath:= "apostille/parse",byteOffset:=8}],2,24,.agg #[.int .i64 0,.string ⟨#[]⟩]⟩),
 (203,⟨.slice 205,1,24,.slice none 0 0⟩),
 (205,⟨.struct #[{name:= "n",type:=3,offset:=0,embedded:=false,tag:= "",pkgPath:= "apostille/alike",byteOffset:=0},{name:= "text",type:=9,offset:=1,embedded:=false,tag:= "",pkgPath:= "apostille/alike",byteOffset:=8},{name:= "is",type:=4,offset:=2,embedded:=false,tag:= "",pkgPath:= "apostille/alike",byteOffset:=24}],3,32,.agg #[.int .i64 0,.string ⟨#[]⟩,.bool false]⟩),
 (207,⟨.func #[205,205] #[4] false,1,8,.nilFunc⟩),
 (210,⟨.unsafePointer,1,8,.pointer none⟩),
 (222,⟨.func #[39] #[4] false,1,8,.nilFunc⟩),
 (228,⟨.struct #[{name:= "from",type:=21,offset:=0,embedded:=false,tag:= "",pkgPath:= "apostille/name",byteOffset:=0},{name:= "to",type:=21,offset:=1,embedded:=false,tag:= "",pkgPath:= "apostille/name",byteOffset:=4}],2,8,.agg #[.int .i32 0,.int .i32 0]⟩),
 (233,⟨.array 256 5,256,256,.agg #[.int .u8 0,.int .u8 0,.int .u8 0,.int .u8 0,.int .u8 0,.int .u8 0,.int .u8 0,.int .u8 0,.int .u8 0,.int .u8 0,.int .u8 0,.int .u8 0,.int .u8 0,.int .u8 0,.int .u8 0,.int .u8 0,.int .u8 0,.int .u8 0,.int .u8 0,.int .u8 0,.int .u8 0,.int .u8 0,.int .u8 0,.int .u8 0,.int .u8 0,.int .u8 0,.int .u8 0,.int .u8 0,.int .u8 0,.int .u8 0,.int .u8 0,.int .u8 0,.int .u8 0,.int .u8 0,.int .u8 0,.int .u8 0,.int .u8 0,.int .u8 0,.int .u8 0,.int .u8 0,.int .u8 0,.int .u8 0,.int .u8 0,.int .u8 0,.int .u8 0,.int .u8 0,.int .u8 0,.int .u8 0,.int .u8 0,.int .u8 0,.int .u8 0,.int .u8 0,.int .u8 0,.int .u8 0,.int .u8 0,.int .u8 0,.int .u8 0,.int .u8 0,.int .u8 0,.int .u8 0,.int .u8 0,.int .u8 0,.int .u8 0,.int .u8 0,.int .u8 0,.int .u8 0,.int .u8 0,.int .u8 0,.int .u8 0,.int .u8 0,.int .u8 0,.int .u8 0,.int .u8 0,.int .u8 0,.int .u8 0,.int .u8 0,.int .u8 0,.int .u8 0,.int .u8 0,.int .u8 0,.int .u8 0,.int .u8 0,.int .u8 0,.int .u8 0,.int .u8 0,.int .u8 0,.int .u8 0,.int .u8 0,.int .u8 0,.int .u8 0,.int .u8 0,.int .u8 0,.int .u8 0,.int .u8 0,.int .u8 0,.int .u8 0,.int .u8 0,.int .u8 0,.int .u8 0,.int .u8 0,.int .u8 0,.int .u8 0,.int .u8 0,.int .u8 0,.int .u8 0,.int .u8 0,.int .u8 0,.int .u8 0,.int .u8 0,.int .u8 0,.int .u8 0,.int .u8 0,.int .u8 0,.int .u8 0,.int .u8 0,.int .u8 0,.int .u8 0,.int .u8 0,.int .u8 0,.int .u8 0,.int .u8 0,.int .u8 0,.int .u8 0,.int .u8 0,.int .u8 0,.int .u8 0,.int .u8 0,.int .u8 0,.int .u8 0,.int .u8 0,.int .u8 0,.int .u8 0,.int .u8 0,.int .u8 0,.int .u8 0,.int .u8 0,.int .u8 0,.int .u8 0,.int .u8 0,.int .u8 0,.int .u8 0,.int .u8 0,.int .u8 0,.int .u8 0,.int .u8 0,.int .u8 0,.int .u8 0,.int .u8 0,.int .u8 0,.int .u8 0,.int .u8 0,.int .u8 0,.int .u8 0,.int .u8 0,.int .u8 0,.int .u8 0,.int .u8 0,.int .u8 0,.int .u8 0,.int .u8 0,.int .u8 0,.int .u8 0,.int .u8 0,.int .u8 0,.int .u8 0,.int .u8 0,.int .u8 0,.int .u8 0,.int .u8 0,.int .u8 0,.int .u8 0,.int .u8 0,.int .u8 0,.int .u8 0,.int .u8 0,.int .u8 0,.int .u8 0,.int .u8 0,.int .u8 0,.int .u8 0,.int .u8 0,.int .u8 0,.int .u8 0,.int .u8 0,.int .u8 0,.int .u8 0,.int .u8 0,.int .u8 0,.int .u8 0,.int .u8 0,.int .u8 0,.int .u8 0,.int .u8 0,.int .u8 0,.int .u8 0,.int .u8 0,.int .u8 0,.int .u8 0,.int .u8 0,.int .u8 0,.int .u8 0,.int .u8 0,.int .u8 0,.int .u8 0,.int .u8 0,.int .u8 0,.int .u8 0,.int .u8 0,.int .u8 0,.int .u8 0,.int .u8 0,.int .u8 0,.int .u8 0,.int .u8 0,.int .u8 0,.int .u8 0,.int .u8 0,.int .u8 0,.int .u8 0,.int .u8 0,.int .u8 0,.int .u8 0,.int .u8 0,.int .u8 0,.int .u8 0,.int .u8 0,.int .u8 0,.int .u8 0,.int .u8 0,.int .u8 0,.int .u8 0,.int .u8 0,.int .u8 0,.int .u8 0,.int .u8 0,.int .u8 0,.int .u8 0,.int .u8 0,.int .u8 0,.int .u8 0,.int .u8 0,.int .u8 0,.int .u8 0,.int .u8 0,.int .u8 0,.int .u8 0,.int .u8 0,.int .u8 0,.int .u8 0,.int .u8 0,.int .u8 0,.int .u8 0,.int .u8 0,.int .u8 0,.int .u8 0,.int .u8 0]⟩),
 (235,⟨.struct #[{name:= "lo",type:=5,offset:=0,embedded:=false,tag:= "",pkgPath:= "unicode/utf8",byteOffset:=0},{name:= "hi",type:=5,offset:=1,embedded:=false,tag:= "",pkgPath:= "unicode/utf8",byteOffset:=1}],2,2,.agg #[.int .u8 0,.int .u8 0]⟩),
 (236,⟨.array 16 235,32,32,.agg #[.int .u8 0,.int .u8 0,.int .u8 0,.int .u8 0,.int .u8 0,.int .u8 0,.int .u8 0,.int .u8 0,.int .u8 0,.int .u8 0,.int .u8 0,.int .u8 0,.int .u8 0,.int .u8 0,.int .u8 0,.int .u8 0,.int .u8 0,.int .u8 0,.int .u8 0,.int .u8 0,.int .u8 0,.int .u8 0,.int .u8 0,.int .u8 0,.int .u8 0,.int .u8 0,.int .u8 0,.int .u8 0,.int .u8 0,.int .u8 0,.int .u8 0,.int .u8 0]⟩),
 (237,⟨.int .u64,1,8,.int .u64 0⟩),
 (238,⟨.pointer 260,1,8,.pointer none⟩),
 (242,⟨.int .u32,1,4,.int .u32 0⟩),
 (243,⟨.slice 228,1,24,.slice none 0 0⟩),
 (244,⟨.int .u64,1,8,.int .u64 0⟩),
 (247,⟨.struct #[],0,0,.agg #[]⟩),
 (248,⟨.struct #[],0,0,.agg #[]⟩),
 (250,⟨.struct #[{name:= "_",type:=248,offset:=0,embedded:=false,tag:= "",pkgPath:= "sync/atomic",byteOffset:=0},{name:= "v",type:=242,offset:=0,embedded:=false,tag:= "",pkgPath:= "sync/atomic",byteOffset:=0}],1,4,.agg #[.int .u32 0]⟩),
 (252,⟨.struct #[{name:= "state",type:=21,offset:=0,embedded:=false,tag:= "",pkgPath:= "internal/sync",byteOffset:=0},{name:= "sema",type:=242,offset:=1,embedded:=false,tag:= "",pkgPath:= "internal/sync",byteOffset:=4}],2,8,.agg #[.int .i32 0,.int .u32 0]⟩),
 (254,⟨.struct #[{name:= "_",type:=247,offset:=0,embedded:=false,tag:= "",pkgPath:= "sync",byteOffset:=0},{name:= "mu",type:=252,offset:=0,embedded:=false,tag:= "",pkgPath:= "sync",byteOffset:=0}],2,8,.agg #[.int .i32 0,.int .u32 0]⟩),
 (256,⟨.struct #[{name:= "_",type:=247,offset:=0,embedded:=false,tag:= "",pkgPath:= "sync",byteOffset:=0},{name:= "done",type:=250,offset:=0,embedded:=false,tag:= "",pkgPath:= "sync",byteOffset:=0},{name:= "m",type:=254,offset:=1,embedded:=false,tag:= "",pkgPath:= "sync",byteOffset:=4}],3,12,.agg #[.int .u32 0,.int .i32 0,.int .u32 0]⟩),
 (258,⟨.interface #[("Replace",98),("WriteString",325)],1,16,.nilIface⟩),
 (260,⟨.struct #[{name:= "once",type:=256,offset:=0,embedded:=false,tag:= "",pkgPath:= "strings",byteOffset:=0},{name:= "r",type:=258,offset:=3,embedded:=false,tag:= "",pkgPath:= "strings",byteOffset:=16},{name:= "oldnew",type:=117,offset:=4,embedded:=false,tag:= "",pkgPath:= "strings",byteOffset:=32}],5,56,.agg #[.int .u32 0,.int .i32 0,.int .u32 0,.nilIface,.slice none 0 0]⟩),
 (271,⟨.pointer 256,1,8,.pointer none⟩),
 (276,⟨.pointer 242,1,8,.pointer none⟩),
 (278,⟨.pointer 294,1,8,.pointer none⟩),
 (280,⟨.pointer 300,1,8,.pointer none⟩),
 (282,⟨.array 256 5,256,256,.agg #[.int .u8 0,.int .u8 0,.int .u8 0,.int .u8 0,.int .u8 0,.int .u8 0,.int .u8 0,.int .u8 0,.int .u8 0,.int .u8 0,.int .u8 0,.int .u8 0,.int .u8 0,.int .u8 0,.int .u8 0,.int .u8 0,.int .u8 0,.int .u8 0,.int .u8 0,.int .u8 0,.int .u8 0,.int .u8 0,.int .u8 0,.int .u8 0,.int .u8 0,.int .u8 0,.int .u8 0,.int .u8 0,.int .u8 0,.int .u8 0,.int .u8 0,.int .u8 0,.int .u8 0,.int .u8 0,.int .u8 0,.int .u8 0,.int .u8 0,.int .u8 0,.int .u8 0,.int .u8 0,.int .u8 0,.int .u8 0,.int .u8 0,.int .u8 0,.int .u8 0,.int .u8 0,.int .u8 0,.int .u8 0,.int .u8 0,.int .u8 0,.int .u8 0,.int .u8 0,.int .u8 0,.int .u8 0,.int .u8 0,.int .u8 0,.int .u8 0,.int .u8 0,.int .u8 0,.int .u8 0,.int .u8 0,.int .u8 0,.int .u8 0,.int .u8 0,.int .u8 0,.int .u8 0,.int .u8 0,.int .u8 0,.int .u8 0,.int .u8 0,.int .u8 0,.int .u8 0,.int .u8 0,.int .u8 0,.int .u8 0,.int .u8 0,.int .u8 0,.int .u8 0,.int .u8 0,.int .u8 0,.int .u8 0,.int .u8 0,.int .u8 0,.int .u8 0,.int .u8 0,.int .u8 0,.int .u8 0,.int .u8 0,.int .u8 0,.int .u8 0,.int .u8 0,.int .u8 0,.int .u8 0,.int .u8 0,.int .u8 0,.int .u8 0,.int .u8 0,.int .u8 0,.int .u8 0,.int .u8 0,.int .u8 0,.int .u8 0,.int .u8 0,.int .u8 0,.int .u8 0,.int .u8 0,.int .u8 0,.int .u8 0,.int .u8 0,.int .u8 0,.int .u8 0,.int .u8 0,.int .u8 0,.int .u8 0,.int .u8 0,.int .u8 0,.int .u8 0,.int .u8 0,.int .u8 0,.int .u8 0,.int .u8 0,.int .u8 0,.int .u8 0,.int .u8 0,.int .u8 0,.int .u8 0,.int .u8 0,.int .u8 0,.int .u8 0,.int .u8 0,.int .u8 0,.int .u8 0,.int .u8 0,.int .u8 0,.int .u8 0,.int .u8 0,.int .u8 0,.int .u8 0,.int .u8 0,.int .u8 0,.int .u8 0,.int .u8 0,.int .u8 0,.int .u8 0,.int .u8 0,.int .u8 0,.int .u8 0,.int .u8 0,.int .u8 0,.int .u8 0,.int .u8 0,.int .u8 0,.int .u8 0,.int .u8 0,.int .u8 0,.int .u8 0,.int .u8 0,.int .u8 0,.int .u8 0,.int .u8 0,.int .u8 0,.int .u8 0,.int .u8 0,.int .u8 0,.int .u8 0,.int .u8 0,.int .u8 0,.int .u8 0,.int .u8 0,.int .u8 0,.int .u8 0,.int .u8 0,.int .u8 0,.int .u8 0,.int .u8 0,.int .u8 0,.int .u8 0,.int .u8 0,.int .u8 0,.int .u8 0,.int .u8 0,.int .u8 0,.int .u8 0,.int .u8 0,.int .u8 0,.int .u8 0,.int .u8 0,.int .u8 0,.int .u8 0,.int .u8 0,.int .u8 0,.int .u8 0,.int .u8 0,.int .u8 0,.int .u8 0,.int .u8 0,.int .u8 0,.int .u8 0,.int .u8 0,.int .u8 0,.int .u8 0,.int .u8 0,.int .u8 0,.int .u8 0,.int .u8 0,.int .u8 0,.int .u8 0,.int .u8 0,.int .u8 0,.int .u8 0,.int .u8 0,.int .u8 0,.int .u8 0,.int .u8 0,.int .u8 0,.int .u8 0,.int .u8 0,.int .u8 0,.int .u8 0,.int .u8 0,.int .u8 0,.int .u8 0,.int .u8 0,.int .u8 0,.int .u8 0,.int .u8 0,.int .u8 0,.int .u8 0,.int .u8 0,.int .u8 0,.int .u8 0,.int .u8 0,.int .u8 0,.int .u8 0,.int .u8 0,.int .u8 0,.int .u8 0,.int .u8 0,.int .u8 0,.int .u8 0,.int .u8 0,.int .u8 0,.int .u8 0,.int .u8 0,.int .u8 0,.int .u8 0,.int .u8 0,.int .u8 0,.int .u8 0,.int .u8 0,.int .u8 0,.int .u8 0,.int .u8 0,.int .u8 0,.int .u8 0,.int .u8 0]⟩),
 (283,⟨.pointer 282,1,8,.pointer none⟩),
 (284,⟨.array 256 22,256,6144,.agg #[.slice none 0 0,.slice none 0 0,.slice none 0 0,.slice none 0 0,.slice none 0 0,.slice none 0 0,.slice none 0 0,.slice none 0 0,.slice none 0 0,.slice none 0 0,.slice none 0 0,.slice none 0 0,.slice none 0 0,.slice none 0 0,.slice none 0 0,.slice none 0 0,.slice none 0 0,.slice none 0 0,.slice none 0 0,.slice none 0 0,.slice none 0 0,.slice none 0 0,.slice none 0 0,.slice none 0 0,.slice none 0 0,.slice none 0 0,.slice none 0 0,.slice none 0 0,.slice none 0 0,.slice none 0 0,.slice none 0 0,.slice none 0 0,.slice none 0 0,.slice none 0 0,.slice none 0 0,.slice none 0 0,.slice none 0 0,.slice none 0 0,.slice none 0 0,.slice none 0 0,.slice none 0 0,.slice none 0 0,.slice none 0 0,.slice none 0 0,.slice none 0 0,.slice none 0 0,.slice none 0 0,.slice none 0 0,.slice none 0 0,.slice none 0 0,.slice none 0 0,.slice none 0 0,.slice none 0 0,.slice none 0 0,.slice none 0 0,.slice none 0 0,.slice none 0 0,.slice none 0 0,.slice none 0 0,.slice none 0 0,.slice none 0 0,.slice none 0 0,.slice none 0 0,.slice none 0 0,.slice none 0 0,.slice none 0 0,.slice none 0 0,.slice none 0 0,.slice none 0 0,.slice none 0 0,.slice none 0 0,.slice none 0 0,.slice none 0 0,.slice none 0 0,.slice none 0 0,.slice none 0 0,.slice none 0 0,.slice none 0 0,.slice none 0 0,.slice none 0 0,.slice none 0 0,.slice none 0 0,.slice none 0 0,.slice none 0 0,.slice none 0 0,.slice none 0 0,.slice none 0 0,.slice none 0 0,.slice none 0 0,.slice none 0 0,.slice none 0 0,.slice none 0 0,.slice none 0 0,.slice none 0 0,.slice none 0 0,.slice none 0 0,.slice none 0 0,.slice none 0 0,.slice none 0 0,.slice none 0 0,.slice none 0 0,.slice none 0 0,.slice none 0 0,.slice none 0 0,.slice none 0 0,.slice none 0 0,.slice none 0 0,.slice none 0 0,.slice none 0 0,.slice none 0 0,.slice none 0 0,.slice none 0 0,.slice none 0 0,.slice none 0 0,.slice none 0 0,.slice none 0 0,.slice none 0 0,.slice none 0 0,.slice none 0 0,.slice none 0 0,.slice none 0 0,.slice none 0 0,.slice none 0 0,.slice none 0 0,.slice none 0 0,.slice none 0 0,.slice none 0 0,.slice none 0 0,.slice none 0 0,.slice none 0 0,.slice none 0 0,.slice none 0 0,.slice none 0 0,.slice none 0 0,.slice none 0 0,.slice none 0 0,.slice none 0 0,.slice none 0 0,.slice none 0 0,.slice none 0 0,.slice none 0 0,.slice none 0 0,.slice none 0 0,.slice none 0 0,.slice none 0 0,.slice none 0 0,.slice none 0 0,.slice none 0 0,.slice none 0 0,.slice none 0 0,.slice none 0 0,.slice none 0 0,.slice none 0 0,.slice none 0 0,.slice none 0 0,.slice none 0 0,.slice none 0 0,.slice none 0 0,.slice none 0 0,.slice none 0 0,.slice none 0 0,.slice none 0 0,.slice none 0 0,.slice none 0 0,.slice none 0 0,.slice none 0 0,.slice none 0 0,.slice none 0 0,.slice none 0 0,.slice none 0 0,.slice none 0 0,.slice none 0 0,.slice none 0 0,.slice none 0 0,.slice none 0 0,.slice none 0 0,.slice none 0 0,.slice none 0 0,.slice none 0 0,.slice none 0 0,.slice none 0 0,.slice none 0 0,.slice none 0 0,.slice none 0 0,.slice none 0 0,.slice none 0 0,.slice none 0 0,.slice none 0 0,.slice none 0 0,.slice none 0 0,.slice none 0 0,.slice none 0 0,.slice none 0 0,.slice none 0 0,.slice none 0 0,.slice none 0 0,.slice none 0 0,.slice none 0 0,.slice none 0 0,.slice none 0 0,.slice none 0 0,.slice none 0 0,.slice none 0 0,.slice none 0 0,.slice none 0 0,.slice none 0 0,.slice none 0 0,.slice none 0 0,.slice none 0 0,.slice none 0 0,.slice none 0 0,.slice none 0 0,.slice none 0 0,.slice none 0 0,.slice none 0 0,.slice none 0 0,.slice none 0 0,.slice none 0 0,.slice none 0 0,.slice none 0 0,.slice none 0 0,.slice none 0 0,.slice none 0 0,.slice none 0 0,.slice none 0 0,.slice none 0 0,.slice none 0 0,.slice none 0 0,.slice none 0 0,.slice none 0 0,.slice none 0 0,.slice none 0 0,.slice none 0 0,.slice none 0 0,.slice none 0 0,.slice none 0 0,.slice none 0 0,.slice none 0 0,.slice none 0 0,.slice none 0 0,.slice none 0 0,.slice none 0 0,.slice none 0 0,.slice none 0 0,.slice none 0 0,.slice none 0 0,.slice none 0 0,.slice none 0 0,.slice none 0 0,.slice none 0 0,.slice none 0 0,.slice none 0 0,.slice none 0 0,.slice none 0 0,.slice none 0 0,.slice none 0 0]⟩),
 (286,⟨.struct #[{name:= "replacements",type:=284,offset:=0,embedded:=false,tag:= "",pkgPath:= "strings",byteOffset:=0},{name:= "toReplace",type:=117,offset:=256,embedded:=false,tag:= "",pkgPath:= "strings",byteOffset:=6144}],257,6168,.agg #[.slice none 0 0,.slice none 0 0,.slice none 0 0,.slice none 0 0,.slice none 0 0,.slice none 0 0,.slice none 0 0,.slice none 0 0,.slice none 0 0,.slice none 0 0,.slice none 0 0,.slice none 0 0,.slice none 0 0,.slice none 0 0,.slice none 0 0,.slice none 0 0,.slice none 0 0,.slice none 0 0,.slice none 0 0,.slice none 0 0,.slice none 0 0,.slice none 0 0,.slice none 0 0,.slice none 0 0,.slice none 0 0,.slice none 0 0,.slice none 0 0,.slice none 0 0,.slice none 0 0,.slice none 0 0,.slice none 0 0,.slice none 0 0,.slice none 0 0,.slice none 0 0,.slice none 0 0,.slice none 0 0,.slice none 0 0,.slice none 0 0,.slice none 0 0,.slice none 0 0,.slice none 0 0,.slice none 0 0,.slice none 0 0,.slice none 0 0,.slice none 0 0,.slice none 0 0,.slice none 0 0,.slice none 0 0,.slice none 0 0,.slice none 0 0,.slice none 0 0,.slice none 0 0,.slice none 0 0,.slice none 0 0,.slice none 0 0,.slice none 0 0,.slice none 0 0,.slice none 0 0,.slice none 0 0,.slice none 0 0,.slice none 0 0,.slice none 0 0,.slice none 0 0,.slice none 0 0,.slice none 0 0,.slice none 0 0,.slice none 0 0,.slice none 0 0,.slice none 0 0,.slice none 0 0,.slice none 0 0,.slice none 0 0,.slice none 0 0,.slice none 0 0,.slice none 0 0,.slice none 0 0,.slice none 0 0,.slice none 0 0,.slice none 0 0,.slice none 0 0,.slice none 0 0,.slice none 0 0,.slice none 0 0,.slice none 0 0,.slice none 0 0,.slice none 0 0,.slice none 0 0,.slice none 0 0,.slice none 0 0,.slice none 0 0,.slice none 0 0,.slice none 0 0,.slice none 0 0,.slice none 0 0,.slice none 0 0,.slice none 0 0,.slice none 0 0,.slice none 0 0,.slice none 0 0,.slice none 0 0,.slice none 0 0,.slice none 0 0,.slice none 0 0,.slice none 0 0,.slice none 0 0,.slice none 0 0,.slice none 0 0,.slice none 0 0,.slice none 0 0,.slice none 0 0,.slice none 0 0,.slice none 0 0,.slice none 0 0,.slice none 0 0,.slice none 0 0,.slice none 0 0,.slice none 0 0,.slice none 0 0,.slice none 0 0,.slice none 0 0,.slice none 0 0,.slice none 0 0,.slice none 0 0,.slice none 0 0,.slice none 0 0,.slice none 0 0,.slice none 0 0,.slice none 0 0,.slice none 0 0,.slice none 0 0,.slice none 0 0,.slice none 0 0,.slice none 0 0,.slice none 0 0,.slice none 0 0,.slice none 0 0,.slice none 0 0,.slice none 0 0,.slice none 0 0,.slice none 0 0,.slice none 0 0,.slice none 0 0,.slice none 0 0,.slice none 0 0,.slice none 0 0,.slice none 0 0,.slice none 0 0,.slice none 0 0,.slice none 0 0,.slice none 0 0,.slice none 0 0,.slice none 0 0,.slice none 0 0,.slice none 0 0,.slice none 0 0,.slice none 0 0,.slice none 0 0,.slice none 0 0,.slice none 0 0,.slice none 0 0,.slice none 0 0,.slice none 0 0,.slice none 0 0,.slice none 0 0,.slice none 0 0,.slice none 0 0,.slice none 0 0,.slice none 0 0,.slice none 0 0,.slice none 0 0,.slice none 0 0,.slice none 0 0,.slice none 0 0,.slice none 0 0,.slice none 0 0,.slice none 0 0,.slice none 0 0,.slice none 0 0,.slice none 0 0,.slice none 0 0,.slice none 0 0,.slice none 0 0,.slice none 0 0,.slice none 0 0,.slice none 0 0,.slice none 0 0,.slice none 0 0,.slice none 0 0,.slice none 0 0,.slice none 0 0,.slice none 0 0,.slice none 0 0,.slice none 0 0,.slice none 0 0,.slice none 0 0,.slice none 0 0,.slice none 0 0,.slice none 0 0,.slice none 0 0,.slice none 0 0,.slice none 0 0,.slice none 0 0,.slice none 0 0,.slice none 0 0,.slice none 0 0,.slice none 0 0,.slice none 0 0,.slice none 0 0,.slice none 0 0,.slice none 0 0,.slice none 0 0,.slice none 0 0,.slice none 0 0,.slice none 0 0,.slice none 0 0,.slice none 0 0,.slice none 0 0,.slice none 0 0,.slice none 0 0,.slice none 0 0,.slice none 0 0,.slice none 0 0,.slice none 0 0,.slice none 0 0,.slice none 0 0,.slice none 0 0,.slice none 0 0,.slice none 0 0,.slice none 0 0,.slice none 0 0,.slice none 0 0,.slice none 0 0,.slice none 0 0,.slice none 0 0,.slice none 0 0,.slice none 0 0,.slice none 0 0,.slice none 0 0,.slice none 0 0,.slice none 0 0,.slice none 0 0,.slice none 0 0,.slice none 0 0,.slice none 0 0,.slice none 0 0,.slice none 0 0,.slice none 0 0,.slice none 0 0,.slice none 0 0,.slice none 0 0,.slice none 0 0,.slice none 0 0,.slice none 0 0,.slice none 0 0,.slice none 0 0,.slice none 0 0,.slice none 0 0]⟩),
 (287,⟨.pointer 286,1,8,.pointer none⟩),
 (302,⟨.pointer 252,1,8,.pointer none⟩),
 (304,⟨.pointer 21,1,8,.pointer none⟩)]
theorem Tryz.hU:TabOk Tryz.prog Tryz.U:=
 .cons (by kernel_rfl) (by kernel_rfl)<|
 .cons (by kernel_rfl) (by kernel_rfl)<|
 .cons (by kernel_rfl) (by kernel_rfl)<|
 .cons (by kernel_rfl) (by kernel_rfl)<|
 .cons (by kernel_rfl) (by kernel_rfl)<|
 .cons (by kernel_rfl) (by kernel_rfl)<|
 .cons (by kernel_rfl) (by kernel_rfl)<|
 .cons (by kernel_rfl) (by kernel_rfl)<|
 .cons (by kernel_rfl) (by kernel_rfl)<|
 .cons (by kernel_rfl) (by kernel_rfl)<|
 .cons (by kernel_rfl) (by kernel_rfl)<|
 .cons (by kernel_rfl) (by kernel_rfl)<|
 .cons (by kernel_rfl) (by kernel_rfl)<|
 .cons (by kernel_rfl) (by kernel_rfl)<|
 .cons (by kernel_rfl) (by kernel_rfl)<|
 .cons (by kernel_rfl) (by kernel_rfl)<|
 .cons (by kernel_rfl) (by kernel_rfl)<|
 .cons (by kernel_rfl) (by kernel_rfl)<|
 .cons (by kernel_rfl) (by kernel_rfl)<|
 .cons (by kernel_rfl) (by kernel_rfl)<|
 .cons (by kernel_rfl) (by kernel_rfl)<|
 .cons (by kernel_rfl) (by kernel_rfl)<|
 .cons (by kernel_rfl) (by kernel_rfl)<|
 .cons (by kernel_rfl) (by kernel_rfl)<|
 .cons (by kernel_rfl) (by kernel_rfl)<|
 .cons (by kernel_rfl) (by kernel_rfl)<|
 .cons (by kernel_rfl) (by kernel_rfl)<|
 .cons (by kernel_rfl) (by kernel_rfl)<|
 .cons (by kernel_rfl) (by kernel_rfl)<|
 .cons (by kernel_rfl) (by kernel_rfl)<|
 .cons (by kernel_rfl) (by kernel_rfl)<|
 .cons (by kernel_rfl) (by kernel_rfl)<|
 .cons (by kernel_rfl) (by kernel_rfl)<|
 .cons (by kernel_rfl) (by kernel_rfl)<|
 .cons (by kernel_rfl) (by kernel_rfl)<|
 .cons (by kernel_rfl) (by kernel_rfl)<|
 .cons (by kernel_rfl) (by kernel_rfl)<|
 .cons (by kernel_rfl) (by kernel_rfl)<|
 .cons (by kernel_rfl) (by kernel_rfl)<|
 .cons (by kernel_rfl) (by kernel_rfl)<|
 .cons (by kernel_rfl) (by kernel_rfl)<|
 .cons (by kernel_rfl) (by kernel_rfl)<|
 .cons (by kernel_rfl) (by kernel_rfl)<|
 .cons (by kernel_rfl) (by kernel_rfl)<|
 .cons (by kernel_rfl) (by kernel_rfl)<|
 .cons (by kernel_rfl) (by kernel_rfl)<|
 .cons (by kernel_rfl) (by kernel_rfl)<|
 .cons (by kernel_rfl) (by kernel_rfl)<|
 .cons (by kernel_rfl) (by kernel_rfl)<|
 .cons (by kernel_rfl) (by kernel_rfl)<|
 .cons (by kernel_rfl) (by kernel_rfl)<|
 .cons (by kernel_rfl) (by kernel_rfl)<|
 .cons (by kernel_rfl) (by kernel_rfl)<|
 .cons (by kernel_rfl) (by kernel_rfl)<|
 .cons (by kernel_rfl) (by kernel_rfl)<|
 .cons (by kernel_rfl) (by kernel_rfl)<|
 .cons (by kernel_rfl) (by kernel_rfl)<|
 .cons (by kernel_rfl) (by kernel_rfl)<|
 .cons (by kernel_rfl) (by kernel_rfl)<|
 .cons (by kernel_rfl) (by kernel_rfl)<|
 .cons (by kernel_rfl) (by kernel_rfl)<|
 .cons (by kernel_rfl) (by kernel_rfl)<|
 .cons (by kernel_rfl) (by kernel_rfl)<|
 .cons (by kernel_rfl) (by kernel_rfl)<|
 .cons (by kernel_rfl) (by kernel_rfl)<|
 .cons (by kernel_rfl) (by kernel_rfl)<|
 .cons (by kernel_rfl) (by kernel_rfl)<|
 .cons (by kernel_rfl) (by kernel_rfl)<|
 .cons (by kernel_rfl) (by kernel_rfl)<|
 .cons (by kernel_rfl) (by kernel_rfl)<|
 .cons (by kernel_rfl) (by kernel_rfl)<|
 .cons (by kernel_rfl) (by kernel_rfl)<|
 .cons (by kernel_rfl) (by kernel_rfl)<|
 .cons (by kernel_rfl) (by kernel_rfl)<|
 .cons (by kernel_rfl) (by kernel_rfl)<|
 .cons (by kernel_rfl) (by kernel_rfl)<|
 .nil _
theorem hm:Tryz.prog.follows .mixedOrders=true:=by kernel_rfl
theorem hs126:Tryz.prog.stoodInHeld 126=false:=by kernel_rfl
theorem he126:Tryz.prog.eqGuardType Tryz.prog.depth 126=false:=by kernel_rfl
def zB (x:zz):List AV:=[S x.Prefix,S x.URI]
def zI (x:zw):List AV:=[S x.Prefix,S x.Local,S x.URI,S x.Value]
def zi (x:zd):List AV:=[I x.Kind,I x.Parent,S x.Prefix,S x.Local,S x.URI,S x.Text,.vs x.Decls.length (F zB x.Decls),.vs x.Attrs.length (F zI x.Attrs)]
def zn (x:zp):List AV:=[I x.n,S x.name]
def c_TSpan (x:zZ):List AV:=[.pl (.int .i32 x.from_),.pl (.int .i32 x.to_)]
def qg (x:qv):List AV:=[.vs x.l.length (F zi x.l),.vs x.end_.length (F cI x.end_),I x.top]
def c_TPair (x:Zf):List AV:=[oP qg x.a,oP qg x.b,B x.comments]
def QU (x:qb):List AV:=[I x.n,S x.text,B x.is_]
theorem qY {s:Str}{r:Int}(h:qy s=some r):XSpec Tryz.prog 241 [.vs s.length (F cU s)] [] (.pl (.int .u64 r)) [] []:=by
 unfold qy at h;refine zf Tryz.hU Tryz.func241 (fun _ _ _ hB=> ?_);refine z.h4.b7.a9.b.g ?_;refine Z6 [] (.q 0 (.q 1 (.q 2 (.q 3 (.q 4 (.q 5 (.q 6 (.q 7 (.q 8 (.q 9 (.q 10 (.q 11 (.q 12 (.q 13 (.q 14 (.q 15 (.q 16 (.q 17 (.q 18 (.q 19 (.q 20 (.q 21 (.q 22 (.q 23 (.q 24 (.q 25 (.q 26 (.q 27 (.q 28 (.q 29 (.q 30 (.q 31 (.q 32 (.q 33 (.q 34 (.q 35 (.q 36 (.q 37 (.q 38 (.q 39 (.q 40 (.q 41 (.q 42 (.q 43 (.q 44 (.q 45 (.q 46 .done))))))))))))))))))))))))))))))))))))))))))))))) hm ?_;refine z.x.g ?_;refine n_at h (fun v1 _ h=> ?_);refine z.x.m5.e1.g ?_;refine n_at h (fun v2 _ h=> ?_);refine z.m.m5.e1.g ?_;refine n_shlC (r:=(v64 (v2.toNat:Int))*2^8) ?_;refine z.x.k7.m.g ?_;refine n_at h (fun v3 _ h=> ?_);refine z.m.m5.e1.g ?_;refine n_shlC (r:=(v64 (v3.toNat:Int))*2^16) ?_;refine z.x.k7.m.g ?_;refine n_at h (fun v4 _ h=> ?_);refine z.m.m5.e1.g ?_;refine n_shlC (r:=(v64 (v4.toNat:Int))*2^24) ?_;refine z.x.k7.m.g ?_;refine n_at h (fun v5 _ h=> ?_);refine z.m.m5.e1.g ?_;refine n_shlC (r:=(v64 (v5.toNat:Int))*2^32) ?_;refine z.x.k7.m.g ?_;refine n_at h (fun v6 _ h=> ?_);refine z.m.m5.e1.g ?_;refine n_shlC (r:=(v64 (v6.toNat:Int))*2^40) ?_;refine z.x.k7.m.g ?_;refine n_at h (fun v7 _ h=> ?_);refine z.m.m5.e1.g ?_;refine n_shlC (r:=(v64 (v7.toNat:Int))*2^48) ?_;refine z.x.k7.m.g ?_;refine n_at h (fun v8 _ h=> ?_);refine z.m.m5.e1.g ?_;refine n_shlC (r:=(v64 (v8.toNat:Int))*2^56) ?_;refine z.l3.P.e7.l5.m.k7.m.g ?_;apply za [] hB h
theorem utf8_Valid_ok {p:Str}{r:Bool}(h:utf8_Valid p=some r):XSpec Tryz.prog 205 [.vs p.length (F cU p)] [] (B r) [] []:=by
 unfold utf8_Valid at h;refine zf Tryz.hU Tryz.func205 (fun _ _ _ hB=> ?_);refine z.F.o0.A.b.g ?_;refine l_sub3 h (fun v1 _ h=> ?_);refine z.Q.a9.g ?_;refine zS (fun y2=>⟨[(0,.vs y2.length (F cU y2))],[],[]⟩) (Sum.elim (fun q40=>(.ret,⟨[(2,B false)],[],[]⟩)) (fun q41=>(.exit 0,⟨[],[],[]⟩))) [] hB h (fun y2 t h=> ?_) (fun q h=> ?_)
 ·unfold Qi at h;refine z.r.F.a1.g ?_;refine zo h (fun _ h=> ?_) (fun _ h=> ?_)
  ·refine z.c.Q.D.g ?_;refine Z5 h (fun v3 _ h=> ?_);refine z.r.O.j6.g ?_;refine zo h (fun _ h=> ?_) (fun _ h=> ?_)
   ·refine z.c.g ?_;refine l_subf h (fun v4 _ h=> ?_);refine z.e2.g ?_;refine qW (fun q6=>(.normal,⟨[(0,.vs v4.length (F cU v4)),(31,B q6)],[],[]⟩)) h (fun t h=> ?_) (fun q6 h=> ?_)
    ·refine z.B.F.f.g ?_;refine zb h (fun _ h=> ?_) (fun _ h=> ?_)
     ·refine z.h.g ?_;refine zl h (fun _=>qY) (fun v5 _ h=> ?_);refine z.L.b8.h5.b0.g ?_;exact zm [] hB h
     refine z.c8.j.g ?_;exact zm [] hB h
    refine f_t ?_;refine zo h (fun _ h=> ?_) (fun _ h=> ?_)
    ·refine z.c.g ?_;refine l_subf h (fun v7 _ h=> ?_);refine z.a9.g ?_;refine qW (fun q11=>(.normal,⟨[(0,.vs v7.length (F cU v7)),(46,B q11)],[],[]⟩)) h (fun t h=> ?_) (fun q11 h=> ?_)
     ·refine Z6 [] (.q 0 (.q 1 (.q 2 (.q 3 (.q 4 (.q 6 (.q 7 (.e 5 (.e 8 (.q 9 (.q 10 (.q 11 (.q 12 .done))))))))))))) hm ?_;refine z.x.e8.m.m2.x.g ?_;refine QS h (fun _ h=> ?_) (fun _ h=> ?_)
      ·refine z.c9.c9.h9.g ?_;refine n_subf h (fun v8 _ h=> ?_);refine z.J.g ?_;refine ZV h (fun _=>qY) (fun v9 _ h=> ?_);refine z.J.g ?_;refine ZV h (fun _=>qY) (fun v10 _ h=> ?_);refine z.a2.m.e8.y.k7.y.k7.y.g ?_;exact zm [] hB h
      refine z.e7.o5.c5.m6.K.m6.a6.g ?_;exact zm [] hB h
     refine f_t ?_;refine zo h (fun _ h=> ?_) (fun _ h=> ?_)
     ·refine z.c.g ?_;refine l_subf h (fun v12 _ h=> ?_);refine z.Q.i.g ?_;refine zS (fun y13=>⟨[(0,.vs y13.length (F cU y13))],[],[]⟩) (fun q22=>(.exit 2,⟨[(0,.vs q22.length (F cU q22))],[],[]⟩)) [] hB h (fun y13 t h=> ?_) (fun q22 h=> ?_)
      ·unfold Qp at h;refine z.a7.a7.g ?_;refine Z6 [] (.q 0 (.q 1 (.q 2 (.q 3 (.q 4 (.q 6 (.q 7 (.q 10 (.q 11 (.q 13 (.q 14 (.e 5 (.e 8 (.q 9 (.e 12 (.e 15 (.q 16 (.q 17 (.q 18 (.q 19 (.q 20 .done))))))))))))))))))))) hm ?_;refine z.x.e8.m.m2.x.g ?_;refine QS h (fun _ h=> ?_) (fun _ h=> ?_)
       ·refine z.c9.c9.h9.g ?_;refine n_subf h (fun v14 _ h=> ?_);refine z.c9.y.g ?_;refine n_subf h (fun v15 _ h=> ?_);refine z.c9.y.g ?_;refine n_subf h (fun v16 _ h=> ?_);refine z.J.g ?_;refine ZV h (fun _=>qY) (fun v17 _ h=> ?_);refine z.J.g ?_;refine ZV h (fun _=>qY) (fun v18 _ h=> ?_);refine z.J.k7.y.g ?_;refine ZV h (fun _=>qY) (fun v19 _ h=> ?_);refine z.J.g ?_;refine ZV h (fun _=>qY) (fun v20 _ h=> ?_);refine z.P.a2.m.e8.y.k7.y.k7.y.k7.y.g ?_;refine zo h (fun _ h=> ?_) (fun _ h=> ?_)
        ·refine z.f.Q.D.g ?_;refine l_subf h (fun v21 _ h=> ?_);refine z.c3.q.g ?_;exact zt [] hB h
        refine z.s.g ?_;exact zq [] hB h
       refine z.s.b7.P.e7.o5.n5.c5.m6.K.m6.n5.K.m6.K.m6.a6.e9.g ?_;exact zq [] hB h
      refine z.m9.s.E.g ?_;exact zt [] hB h
     refine z.m9.s.D.g ?_;exact zt [] hB h
    refine z.m9.s.D.g ?_;exact zt [] hB h
   refine z.v.g ?_;refine l_atg (ev:=(fun x:UInt8=>[Value.int .u8 (x.toNat:Int)])) 0 h (fun v23 _ h=> ?_);refine z.C.f0.C.j6.g ?_;refine l_shrU v23 4 ?_;refine l_atg (ev:=(fun x:QP=>[Value.int .u8 (x.lo.toNat:Int),Value.int .u8 (x.hi.toNat:Int)])) 1 h (fun v24 _ h=> ?_);refine z.i.a8.b.k8.c.c6.d0.b3.g ?_;refine zo h (fun _ h=> ?_) (fun _ h=> ?_)
   ·refine z.a7.a7.g ?_;refine Z6 [] (.q 0 (.q 1 (.q 2 (.q 3 (.q 4 (.q 5 (.q 6 (.q 7 (.q 8 (.q 9 (.q 10 (.q 11 (.q 12 (.q 13 (.q 14 (.q 15 (.q 16 (.q 17 (.q 18 .done))))))))))))))))))) hm ?_;refine z.x.e8.m.m2.x.g ?_;refine QS h (fun _ h=> ?_) (fun _ h=> ?_)
    ·refine z.t.i0.d4.P.a2.a6.e3.a6.e9.g ?_;exact zq [] hB h
    refine z.c9.h9.g ?_;refine n_at h (fun v25 _ h=> ?_);refine z.x.l6.e8.b9.S.k9.y.g ?_;refine QS h (fun _ h=> ?_) (fun _ h=> ?_)
    ·refine z.t.i0.d4.P.a2.a6.e9.g ?_;exact zq [] hB h
    refine z.c9.b9.o1.h9.g ?_;refine n_at h (fun v26 _ h=> ?_);refine z.P.o2.e8.b9.y.g ?_;refine zo h (fun _ h=> ?_) (fun _ h=> ?_)
    ·refine z.t.i0.g ?_;exact zq [] hB h
    refine z.f.D.g ?_;refine l_subf h (fun v27 _ h=> ?_);refine z.c3.c3.q.g ?_;exact zt [] hB h
   refine z.i.a8.b.g ?_;refine zo h (fun _ h=> ?_) (fun _ h=> ?_)
   ·refine z.a7.a7.g ?_;refine Z6 [] (.q 0 (.q 1 (.q 2 (.q 3 (.q 4 (.q 5 (.q 6 (.q 7 (.q 8 (.q 9 (.q 10 (.q 11 (.q 12 (.q 13 (.q 14 (.q 15 (.q 16 (.q 17 (.q 18 (.q 19 (.q 20 (.q 21 (.q 22 (.q 23 (.q 24 (.q 25 (.q 26 (.q 27 (.q 28 (.q 29 (.q 30 .done))))))))))))))))))))))))))))))) hm ?_;refine z.x.e8.m.m2.x.g ?_;refine QS h (fun _ h=> ?_) (fun _ h=> ?_)
    ·refine z.t.i0.d4.P.a2.e3.e3.a6.e3.a6.e9.g ?_;exact zq [] hB h
    refine z.c9.h9.g ?_;refine n_at h (fun v28 _ h=> ?_);refine z.x.l6.e8.b9.S.k9.y.g ?_;refine QS h (fun _ h=> ?_) (fun _ h=> ?_)
    ·refine z.t.i0.d4.P.a2.e3.e3.a6.e9.g ?_;exact zq [] hB h
    refine z.c9.b9.o1.h9.g ?_;refine n_at h (fun v29 _ h=> ?_);refine z.x.l6.e8.b9.y.g ?_;refine QS h (fun _ h=> ?_) (fun _ h=> ?_)
    ·refine z.t.i0.d4.P.a2.e3.e9.g ?_;exact zq [] hB h
    refine z.c9.h9.g ?_;refine n_at h (fun v30 _ h=> ?_);refine z.x.l6.e8.b9.y.g ?_;refine QS h (fun _ h=> ?_) (fun _ h=> ?_)
    ·refine z.t.i0.d4.P.a2.e9.g ?_;exact zq [] hB h
    refine z.c9.h9.g ?_;refine n_at h (fun v31 _ h=> ?_);refine z.P.o2.e8.b9.y.g ?_;refine zo h (fun _ h=> ?_) (fun _ h=> ?_)
    ·refine z.t.i0.g ?_;exact zq [] hB h
    refine z.f.D.g ?_;refine l_subf h (fun v32 _ h=> ?_);refine z.c3.c3.q.g ?_;exact zt [] hB h
   refine z.i.a8.b.g ?_;refine zo h (fun _ h=> ?_) (fun _ h=> ?_)
   ·refine z.a7.a7.g ?_;refine Z6 [] (.q 0 (.q 1 (.q 2 (.q 3 (.q 4 (.q 5 (.q 6 (.q 7 (.q 8 (.q 9 (.q 10 (.q 11 (.q 12 (.q 13 (.q 14 (.q 15 (.q 16 (.q 17 (.q 18 (.q 19 (.q 20 (.q 21 (.q 22 (.q 23 (.q 24 (.q 25 (.q 26 (.q 27 (.q 28 (.q 29 (.q 30 (.q 31 (.q 32 (.q 33 (.q 34 (.q 35 (.q 36 (.q 37 (.q 38 (.q 39 (.q 40 (.q 41 (.q 42 .done))))))))))))))))))))))))))))))))))))))))))) hm ?_;refine z.x.e8.m.m2.x.g ?_;refine QS h (fun _ h=> ?_) (fun _ h=> ?_)
    ·refine z.t.i0.d4.P.a2.e3.e3.e3.e3.a6.e3.a6.e9.g ?_;exact zq [] hB h
    refine z.c9.h9.g ?_;refine n_at h (fun v33 _ h=> ?_);refine z.x.l6.e8.b9.S.k9.y.g ?_;refine QS h (fun _ h=> ?_) (fun _ h=> ?_)
    ·refine z.t.i0.d4.P.a2.e3.e3.e3.e3.a6.e9.g ?_;exact zq [] hB h
    refine z.c9.b9.o1.h9.g ?_;refine n_at h (fun v34 _ h=> ?_);refine z.x.l6.e8.b9.y.g ?_;refine QS h (fun _ h=> ?_) (fun _ h=> ?_)
    ·refine z.t.i0.d4.P.a2.e3.e3.e3.e9.g ?_;exact zq [] hB h
    refine z.c9.h9.g ?_;refine n_at h (fun v35 _ h=> ?_);refine z.x.l6.e8.b9.y.g ?_;refine QS h (fun _ h=> ?_) (fun _ h=> ?_)
    ·refine z.t.i0.d4.P.a2.e3.e3.e9.g ?_;exact zq [] hB h
    refine z.c9.h9.g ?_;refine n_at h (fun v36 _ h=> ?_);refine z.x.l6.e8.b9.y.g ?_;refine QS h (fun _ h=> ?_) (fun _ h=> ?_)
    ·refine z.t.i0.d4.P.a2.e3.e9.g ?_;exact zq [] hB h
    refine z.c9.h9.g ?_;refine n_at h (fun v37 _ h=> ?_);refine z.x.l6.e8.b9.y.g ?_;refine QS h (fun _ h=> ?_) (fun _ h=> ?_)
    ·refine z.t.i0.d4.P.a2.e9.g ?_;exact zq [] hB h
    refine z.c9.h9.g ?_;refine n_at h (fun v38 _ h=> ?_);refine z.P.o2.e8.b9.y.g ?_;refine zo h (fun _ h=> ?_) (fun _ h=> ?_)
    ·refine z.t.i0.g ?_;exact zq [] hB h
    refine z.f.D.g ?_;refine l_subf h (fun v39 _ h=> ?_);refine z.c3.c3.q.g ?_;exact zt [] hB h
   refine z.t.t.U.g ?_;exact zq [] hB h
  refine z.s.g ?_;exact zq [] hB h
 rcases q with q40|q41
 ·dsimp only [Sum.elim] at h ⊢
  refine z.o.g ?_;apply za [] hB h
 dsimp only [Sum.elim] at h ⊢
 refine z.U.E.g ?_;apply za [] hB h
theorem utf_Valid_ok {b:Str}{r:Bool}(h:utf_Valid b=some r):XSpec Tryz.prog 155 [.vs b.length (F cU b)] [] (B r) [] []:=by
 unfold utf_Valid at h;refine zf Tryz.hU Tryz.func155 (fun _ _ _ hB=> ?_);refine z.b4.g ?_;refine zl h (fun _=>utf8_Valid_ok) (fun v1 _ h=> ?_);refine z.e.g ?_;apply za [] hB h
theorem utf8_decodeRuneSlow_ok {p:Str}{r:Int×Int}(h:ZL p=some r):XSpec Tryz.prog 206 [.vs p.length (F cU p)] [] (.tup [.pl (.int .i32 r.1),I r.2]) [] []:=by
 unfold ZL at h;refine zf Tryz.hU Tryz.func206 (fun _ _ _ hB=> ?_);refine z.r.O.F.C.b1.g ?_;refine zo h (fun _ h=> ?_) (fun _ h=> ?_)
 ·refine z.M.g ?_;apply za [] hB h
 refine z.v.g ?_;refine Z5 h (fun v1 _ h=> ?_);refine z.C.j6.g ?_;refine l_atg (ev:=(fun x:UInt8=>[Value.int .u8 (x.toNat:Int)])) 0 h (fun v2 _ h=> ?_);refine z.r.O.j6.g ?_;refine zo h (fun _ h=> ?_) (fun _ h=> ?_)
 ·refine z.l7.c.g ?_;refine l_shlC (r:=(w32 (v2.toNat:Int))*2^31) ?_;refine Jg (r:=((w32 ((w32 (v2.toNat:Int))*2^31)).fdiv (2^31))) ?_;refine z.C.g ?_;refine Z5 h (fun v3 _ h=> ?_);refine z.f1.h5.h5.a.h5.a.l7.j6.g ?_;apply za [] hB h
 refine z.C.f0.v.g ?_;refine l_shrU v2 4 ?_;refine l_atg (ev:=(fun x:QP=>[Value.int .u8 (x.lo.toNat:Int),Value.int .u8 (x.hi.toNat:Int)])) 1 h (fun v4 _ h=> ?_);refine z.r.j7.c6.d0.b3.g ?_;refine zo h (fun _ h=> ?_) (fun _ h=> ?_)
 ·refine z.M.g ?_;apply za [] hB h
 refine z.v.g ?_;refine Z5 h (fun v5 _ h=> ?_);refine z.e2.j6.g ?_;refine qW (fun q6=>(.normal,⟨[(0,.vs p.length (F cU p)),(5,U v1),(8,I (w64 ((u8 (band 8 (v2.toNat:Int) 7)).toNat:Int))),(10,U v5),(60,B q6)],[],[]⟩)) h (fun t h=> ?_) (fun q6 h=> ?_)
 ·refine z.B.T.f.g ?_;refine zb h (fun _ h=> ?_) (fun _ h=> ?_)
  ·refine z.L.j.g ?_;exact zm [] hB h
  refine z.c8.G.l4.g ?_;exact zm [] hB h
 refine f_t ?_;refine zo h (fun _ h=> ?_) (fun _ h=> ?_)
 ·refine z.M.g ?_;apply za [] hB h
 refine z.r.c.h4.g ?_;refine zo h (fun _ h=> ?_) (fun _ h=> ?_)
 ·refine z.f0.c.g ?_;refine l_shlC (r:=(w32 ((u8 (band 8 (v1.toNat:Int) 31)).toNat:Int))*2^6) ?_;refine z.f1.h5.f0.a.g ?_;apply za [] hB h
 refine z.v.g ?_;refine Z5 h (fun v7 _ h=> ?_);refine z.e2.j6.g ?_;refine qW (fun q8=>(.normal,⟨[(0,.vs p.length (F cU p)),(5,U v1),(8,I (w64 ((u8 (band 8 (v2.toNat:Int) 7)).toNat:Int))),(10,U v5),(11,U v7),(79,B q8)],[],[]⟩)) h (fun t h=> ?_) (fun q8 h=> ?_)
 ·refine z.B.f.g ?_;refine zb h (fun _ h=> ?_) (fun _ h=> ?_)
  ·refine z.L.k.g ?_;exact zm [] hB h
  refine z.c8.G.g ?_;exact zm [] hB h
 refine f_t ?_;refine zo h (fun _ h=> ?_) (fun _ h=> ?_)
 ·refine z.M.g ?_;apply za [] hB h
 refine z.r.c.h4.g ?_;refine zo h (fun _ h=> ?_) (fun _ h=> ?_)
 ·refine z.f0.c.g ?_;refine l_shlC (r:=(w32 ((u8 (band 8 (v1.toNat:Int) 15)).toNat:Int))*2^12) ?_;refine z.f0.a.g ?_;refine l_shlC (r:=(w32 ((u8 (band 8 (v5.toNat:Int) 63)).toNat:Int))*2^6) ?_;refine z.f1.h5.f0.a.h5.g ?_;apply za [] hB h
 refine z.v.g ?_;refine Z5 h (fun v9 _ h=> ?_);refine z.e2.j6.g ?_;refine qW (fun q10=>(.normal,⟨[(5,U v1),(10,U v5),(11,U v7),(12,U v9),(103,B q10)],[],[]⟩)) h (fun t h=> ?_) (fun q10 h=> ?_)
 ·refine z.B.f.g ?_;refine zb h (fun _ h=> ?_) (fun _ h=> ?_)
  ·refine z.L.k.g ?_;exact zm [] hB h
  refine z.c8.G.g ?_;exact zm [] hB h
 refine f_t ?_;refine zo h (fun _ h=> ?_) (fun _ h=> ?_)
 ·refine z.M.g ?_;apply za [] hB h
 refine z.f0.v.g ?_;refine l_shlC (r:=(w32 ((u8 (band 8 (v1.toNat:Int) 7)).toNat:Int))*2^18) ?_;refine z.f0.a.g ?_;refine l_shlC (r:=(w32 ((u8 (band 8 (v5.toNat:Int) 63)).toNat:Int))*2^12) ?_;refine z.f0.a.h5.g ?_;refine l_shlC (r:=(w32 ((u8 (band 8 (v7.toNat:Int) 63)).toNat:Int))*2^6) ?_;refine z.H.h5.f0.a.h5.g ?_;apply za [] hB h
theorem utf8_DecodeRune_ok {p:Str}{r:Int×Int}(h:Q2 p=some r):XSpec Tryz.prog 156 [.vs p.length (F cU p)] [] (.tup [.pl (.int .i32 r.1),I r.2]) [] []:=by
 unfold Q2 at h;refine zf Tryz.hU Tryz.func156 (fun _ _ _ hB=> ?_);refine z.d6.O.b1.g ?_;refine zS (fun y1=>⟨[(0,.vs p.length (F cU p)),(6,.vs p.length (F cU p)),(7,I (p.length:Int)),(8,I 0)],[],[]⟩) (Sum.elim (fun q3=>(.ret,⟨[(2,.pl (.int .i32 q3)),(3,I 1)],[],[]⟩)) (fun q4=>(.exit 0,⟨[(0,.vs p.length (F cU p))],[],[]⟩))) [] hB h (fun y1 t h=> ?_) (fun q h=> ?_)
 ·unfold QF at h;refine z.c0.g ?_;refine zo h (fun _ h=> ?_) (fun _ h=> ?_)
  ·refine z.b.I.g ?_;refine Z5 h (fun v2 _ h=> ?_);refine z.r.O.j6.g ?_;refine zo h (fun _ h=> ?_) (fun _ h=> ?_)
   ·refine z.o.f1.l7.c.g ?_;exact zq [] hB h
   refine z.p5.p4.p3.D.g ?_;exact zq [] hB h
  refine z.s.g ?_;exact zq [] hB h
 rcases q with q3|q4
 ·dsimp only [Sum.elim] at h ⊢
  refine z.o.g ?_;apply za [] hB h
 dsimp only [Sum.elim] at h ⊢
 refine z.c.E.g ?_;refine zl h (fun _=>utf8_decodeRuneSlow_ok) (fun v5 _ h=> ?_);refine z.H.j8.g ?_;apply za [] hB h
theorem utf_Chars_ok {b:Str}{r:(List Int)×Bool}(h:utf_Chars b=some r):XSpec Tryz.prog 96 [.vs b.length (F cU b)] [] (.tup [.sl 1 0 r.1.length,B r.2]) [(1,.row 21 1 0 (F cR r.1))] []:=by
 unfold utf_Chars at h;refine zf Tryz.hU Tryz.func96 (fun _ _ _ hB=> ?_);refine z.O.b1.g ?_;refine zl h (fun _=>utf_Valid_ok) (fun v1 _ h=> ?_);refine z.c7.g ?_;refine zo h (fun _ h=> ?_) (fun _ h=> ?_)
 ·refine z.M.g ?_;refine f_nilrow (te:=21) (t:=2) 3002 1 ?_;apply za [(3002,1)] hB h
 refine z.Q.i.b.a9.b.D.g ?_;refine k_nilrow (te:=21) (t:=4) 3004 1 ?_;refine zS (fun y2=>⟨[(0,.vs b.length (F cU b)),(4,.sl 3004 0 y2.2.length),(5,I y2.1)],[(3004,.row 21 1 0 (F cR y2.2))],[]⟩) (fun q6=>(.exit 0,⟨[(4,.sl 3004 0 q6.length)],[(3004,.row 21 1 0 (F cR q6))],[]⟩)) [(3004,3004)] hB h (fun y2 t h=> ?_) (fun q6 h=> ?_)
 ·unfold QK at h;refine z.r.F.j7.g ?_;refine zo h (fun _ h=> ?_) (fun _ h=> ?_)
  ·refine z.p.Q.D.g ?_;refine l_subf h (fun v3 _ h=> ?_);refine zl h (fun _=>utf8_DecodeRune_ok) (fun v4 _ h=> ?_);refine z.A.b2.g ?_;refine QY (e:=cR) [v4.1] ?_;refine Jm h (fun v5 _ h=> ?_);refine z.c3.i8.N.i.g ?_;exact zt [(3004,3004)] hB h
  refine z.s.g ?_;exact zq [(3004,3004)] hB h
 refine z.H.c.E.g ?_;apply za [(3004,1)] hB h
theorem utf_Xml_ok {r_:Int}{r:Bool}(h:utf_Xml r_=some r):XSpec Tryz.prog 97 [.pl (.int .i32 r_)] [] (B r) [] []:=by
 unfold utf_Xml at h;refine zf Tryz.hU Tryz.func97 (fun _ _ _ hB=> ?_);refine z.a9.b.g ?_;refine qW (Sum.elim (fun q1=>(.ret,⟨[(2,B true)],[],[]⟩)) (fun q2=>(.normal,⟨[(0,.pl (.int .i32 r_))],[],[]⟩))) h (fun t h=> ?_) (fun q h=> ?_)
 ·refine z.i.a8.a1.Q.g ?_;refine zo h (fun _ h=> ?_) (fun _ h=> ?_)
  ·refine z.D.g ?_;refine zo h (fun _ h=> ?_) (fun _ h=> ?_)
   ·refine z.t.U.g ?_;exact zm [] hB h
   refine z.c3.k5.g ?_;exact zm [] hB h
  refine z.i.a8.c.g ?_;refine zo h (fun _ h=> ?_) (fun _ h=> ?_)
  ·refine z.D.g ?_;refine zo h (fun _ h=> ?_) (fun _ h=> ?_)
   ·refine z.t.U.g ?_;exact zm [] hB h
   refine z.c3.k5.g ?_;exact zm [] hB h
  refine z.i.a8.f.g ?_;refine zo h (fun _ h=> ?_) (fun _ h=> ?_)
  ·refine z.t.U.g ?_;exact zm [] hB h
  refine z.c3.k5.g ?_;exact zm [] hB h
 rcases q with q1|q2
 ·dsimp only [Sum.elim] at h ⊢
  refine f_tr ?_;apply za [] hB h
 dsimp only [Sum.elim] at h ⊢
 refine z.B.c.P.g ?_;refine zb h (fun _ h=> ?_) (fun _ h=> ?_)
 ·refine z.a3.G.g ?_;refine zb h (fun _ h=> ?_) (fun _ h=> ?_)
  ·refine z.X.k.W.i1.g ?_;apply za [] hB h
  refine z.c4.G.g ?_;refine zb h (fun _ h=> ?_) (fun _ h=> ?_)
  ·refine z.n.i2.G.g ?_;refine zb h (fun _ h=> ?_) (fun _ h=> ?_)
   ·refine z.X.i1.g ?_;apply za [] hB h
   refine z.c4.G.g ?_;refine zb h (fun _ h=> ?_) (fun _ h=> ?_)
   ·refine z.c1.i2.G.g ?_;apply za [] hB h
   refine z.c1.i3.k.g ?_;apply za [] hB h
  refine z.c4.G.n.i3.k.g ?_;refine zb h (fun _ h=> ?_) (fun _ h=> ?_)
  ·refine z.c1.i2.G.g ?_;apply za [] hB h
  refine z.c1.i3.k.g ?_;apply za [] hB h
 refine z.c4.G.n.k.g ?_;refine zb h (fun _ h=> ?_) (fun _ h=> ?_)
 ·refine z.n.i2.G.g ?_;refine zb h (fun _ h=> ?_) (fun _ h=> ?_)
  ·refine z.X.i1.g ?_;apply za [] hB h
  refine z.c4.G.g ?_;refine zb h (fun _ h=> ?_) (fun _ h=> ?_)
  ·refine z.c1.i2.G.g ?_;apply za [] hB h
  refine z.c1.i3.k.g ?_;apply za [] hB h
 refine z.c4.G.n.i3.k.g ?_;refine zb h (fun _ h=> ?_) (fun _ h=> ?_)
 ·refine z.c1.i2.G.g ?_;apply za [] hB h
 refine z.c1.i3.k.g ?_;apply za [] hB h
theorem utf_Text_ok {b:Str}{r:Bool}(h:utf_Text b=some r):XSpec Tryz.prog 58 [.vs b.length (F cU b)] [] (B r) [] []:=by
 unfold utf_Text at h;refine zf Tryz.hU Tryz.func58 (fun _ _ _ hB=> ?_);refine z.b4.g ?_;refine zj [(1,100901)] [] h (fun _=>utf_Chars_ok) (fun v1 _ h=> ?_);refine z.d6.O.b2.g ?_;refine zS (fun y2=>⟨[(4,B y2.1),(12,.sl 100901 0 v1.1.length),(13,I (v1.1.length:Int)),(14,I y2.2)],[(100901,.row 21 1 0 (F cR v1.1))],[]⟩) (fun q5=>(.exit 0,⟨[(4,B q5)],[],[]⟩)) [(100901,100901)] hB h (fun y2 t h=> ?_) (fun q5 h=> ?_)
 ·unfold JK at h;refine z.c0.g ?_;refine zo h (fun _ h=> ?_) (fun _ h=> ?_)
  ·refine z.b.I.g ?_;refine QD h (fun v3 ev3 h=> ?_);refine QL ev3 ?_;refine z.N.i.g ?_;refine zb h (fun _ h=> ?_) (fun _ h=> ?_)
   ·refine z.h.g ?_;refine zl h (fun _=>utf_Xml_ok) (fun v4 _ h=> ?_);refine z.d7.q.f2.g ?_;exact zt [(100901,100901)] hB h
   refine z.d7.q.d8.k.g ?_;exact zt [(100901,100901)] hB h
  refine z.s.g ?_;exact zq [] hB h
 refine z.e.c.E.g ?_;apply za [] hB h
theorem strings_Count_ok {s sep:Str}{r:Int}(h:Jv s sep=some r):XSpec Tryz.prog 207 [S s,S sep] [] (I r) [] []:=by
 unfold Jv at h
 cases e:decide (s.length<4294967281∧1≤sep.length) with
 |false=>rw [e] at h;cases h
 |true=>
  rw [e] at h;cases h
  have e:=of_decide_eq_true e
  exact lift_x (args:=[.string ⟨s.toArray⟩,.string ⟨sep.toArray⟩]) (fun es w=>enters_of Tryz.func207 (by kernel_rfl) rfl es w) (fun w hi=>by
   obtain ⟨n,hn⟩:=hi 2 (by decide)
   exact Tryz.strings_Count_any ⟨s.toArray⟩ ⟨sep.toArray⟩ n w e.1 hn e.2)
theorem stringslite_Index_ok {s sep:Str}{r:Int}(h:stringslite_Index s sep=some r):XSpec Tryz.prog 245 [S s,S sep] [] (I r) [] []:=by
 unfold stringslite_Index at h
 cases e:decide (s.length<4294967281) with
 |false=>rw [e] at h;cases h
 |true=>
  rw [e] at h;cases h
  have e:=of_decide_eq_true e
  exact lift_x (args:=[.string ⟨s.toArray⟩,.string ⟨sep.toArray⟩]) (fun es w=>enters_of Tryz.func245 (by kernel_rfl) rfl es w) (fun w hi=>by
   obtain ⟨n,hn⟩:=hi 2 (by decide)
   exact Tryz.stringslite_Index ⟨s.toArray⟩ ⟨sep.toArray⟩ n w e hn)
theorem strings_Index_ok {s:Str}{substr:Str}{r:Int}(h:ZQ s substr=some r):XSpec Tryz.prog 209 [S s,S substr] [] (I r) [] []:=by
 unfold ZQ at h;refine zf Tryz.hU Tryz.func209 (fun _ _ _ hB=> ?_);refine z.A.b.g ?_;refine zl h (fun _=>stringslite_Index_ok) (fun v1 _ h=> ?_);refine z.e.g ?_;apply za [] hB h
theorem Qy {s:Str}{r:Int×Int}(h:qU s=some r):XSpec Tryz.prog 246 [S s] [] (.tup [.pl (.int .i32 r.1),I r.2]) [] []:=by
 unfold qU at h;refine zf Tryz.hU Tryz.func246 (fun _ _ _ hB=> ?_);refine z.r.O.Y.C.b1.g ?_;refine zo h (fun _ h=> ?_) (fun _ h=> ?_)
 ·refine z.M.g ?_;apply za [] hB h
 refine z.v.g ?_;refine ZZ h (fun v1 _ h=> ?_);refine z.C.g ?_;refine l_atg (ev:=(fun x:UInt8=>[Value.int .u8 (x.toNat:Int)])) 0 h (fun v2 _ h=> ?_);refine z.r.O.j6.g ?_;refine zo h (fun _ h=> ?_) (fun _ h=> ?_)
 ·refine z.l7.c.g ?_;refine l_shlC (r:=(w32 (v2.toNat:Int))*2^31) ?_;refine Jg (r:=((w32 ((w32 (v2.toNat:Int))*2^31)).fdiv (2^31))) ?_;refine z.C.g ?_;refine ZZ h (fun v3 _ h=> ?_);refine z.f1.h5.h5.a.h5.a.l7.g ?_;apply za [] hB h
 refine z.C.f0.v.g ?_;refine l_shrU v2 4 ?_;refine l_atg (ev:=(fun x:QP=>[Value.int .u8 (x.lo.toNat:Int),Value.int .u8 (x.hi.toNat:Int)])) 1 h (fun v4 _ h=> ?_);refine z.r.j7.c6.d0.b3.g ?_;refine zo h (fun _ h=> ?_) (fun _ h=> ?_)
 ·refine z.M.g ?_;apply za [] hB h
 refine z.v.g ?_;refine ZZ h (fun v5 _ h=> ?_);refine z.e2.g ?_;refine qW (fun q6=>(.normal,⟨[(0,S s),(5,U v1),(8,I (w64 ((u8 (band 8 (v2.toNat:Int) 7)).toNat:Int))),(10,U v5),(57,B q6)],[],[]⟩)) h (fun t h=> ?_) (fun q6 h=> ?_)
 ·refine z.B.T.f.g ?_;refine zb h (fun _ h=> ?_) (fun _ h=> ?_)
  ·refine z.L.j.g ?_;exact zm [] hB h
  refine z.c8.G.l4.g ?_;exact zm [] hB h
 refine f_t ?_;refine zo h (fun _ h=> ?_) (fun _ h=> ?_)
 ·refine z.M.g ?_;apply za [] hB h
 refine z.r.c.h4.g ?_;refine zo h (fun _ h=> ?_) (fun _ h=> ?_)
 ·refine z.f0.c.g ?_;refine l_shlC (r:=(w32 ((u8 (band 8 (v1.toNat:Int) 31)).toNat:Int))*2^6) ?_;refine z.f1.h5.f0.a.g ?_;apply za [] hB h
 refine z.v.g ?_;refine ZZ h (fun v7 _ h=> ?_);refine z.e2.g ?_;refine qW (fun q8=>(.normal,⟨[(0,S s),(5,U v1),(8,I (w64 ((u8 (band 8 (v2.toNat:Int) 7)).toNat:Int))),(10,U v5),(11,U v7),(75,B q8)],[],[]⟩)) h (fun t h=> ?_) (fun q8 h=> ?_)
 ·refine z.B.f.g ?_;refine zb h (fun _ h=> ?_) (fun _ h=> ?_)
  ·refine z.L.k.g ?_;exact zm [] hB h
  refine z.c8.G.g ?_;exact zm [] hB h
 refine f_t ?_;refine zo h (fun _ h=> ?_) (fun _ h=> ?_)
 ·refine z.M.g ?_;apply za [] hB h
 refine z.r.c.h4.g ?_;refine zo h (fun _ h=> ?_) (fun _ h=> ?_)
 ·refine z.f0.c.g ?_;refine l_shlC (r:=(w32 ((u8 (band 8 (v1.toNat:Int) 15)).toNat:Int))*2^12) ?_;refine z.f0.a.g ?_;refine l_shlC (r:=(w32 ((u8 (band 8 (v5.toNat:Int) 63)).toNat:Int))*2^6) ?_;refine z.f1.h5.f0.a.h5.g ?_;apply za [] hB h
 refine z.v.g ?_;refine ZZ h (fun v9 _ h=> ?_);refine z.e2.g ?_;refine qW (fun q10=>(.normal,⟨[(5,U v1),(10,U v5),(11,U v7),(12,U v9),(98,B q10)],[],[]⟩)) h (fun t h=> ?_) (fun q10 h=> ?_)
 ·refine z.B.f.g ?_;refine zb h (fun _ h=> ?_) (fun _ h=> ?_)
  ·refine z.L.k.g ?_;exact zm [] hB h
  refine z.c8.G.g ?_;exact zm [] hB h
 refine f_t ?_;refine zo h (fun _ h=> ?_) (fun _ h=> ?_)
 ·refine z.M.g ?_;apply za [] hB h
 refine z.f0.v.g ?_;refine l_shlC (r:=(w32 ((u8 (band 8 (v1.toNat:Int) 7)).toNat:Int))*2^18) ?_;refine z.f0.a.g ?_;refine l_shlC (r:=(w32 ((u8 (band 8 (v5.toNat:Int) 63)).toNat:Int))*2^12) ?_;refine z.f0.a.h5.g ?_;refine l_shlC (r:=(w32 ((u8 (band 8 (v7.toNat:Int) 63)).toNat:Int))*2^6) ?_;refine z.H.h5.f0.a.h5.g ?_;apply za [] hB h
theorem Jf {s:Str}{r:Int×Int}(h:ZD s=some r):XSpec Tryz.prog 210 [S s] [] (.tup [.pl (.int .i32 r.1),I r.2]) [] []:=by
 unfold ZD at h;refine zf Tryz.hU Tryz.func210 (fun _ _ _ hB=> ?_);refine z.a.f5.O.b1.g ?_;refine zb h (fun _ h=> ?_) (fun _ h=> ?_)
 ·refine z.h.g ?_;refine ZZ h (fun v1 _ h=> ?_);refine z.l8.b8.g ?_;refine zo h (fun _ h=> ?_) (fun _ h=> ?_)
  ·refine z.c.g ?_;refine ZZ h (fun v2 _ h=> ?_);refine z.f1.l7.g ?_;apply za [] hB h
  refine z.f.g ?_;refine zl h (fun _=>Qy) (fun v3 _ h=> ?_);refine z.H.j8.g ?_;apply za [] hB h
 refine z.f.b7.V.l.g ?_;refine zl h (fun _=>Qy) (fun v4 _ h=> ?_);refine z.H.j8.g ?_;apply za [] hB h
theorem strings_Builder_copyCheck_s1_ok {u1:Bool}{r:Unit}(h:qQ u1=some r):XSpec Tryz.prog 139 [.ptr 2000101 0] [(2000101,.box 102 [.nptr u1 2000101 0,.pl (.slice none 0 0)])] (.tup []) [(2000101,.box 102 [.nptr false 2000101 0,.pl (.slice none 0 0)])] []:=by
 unfold qQ at h;refine zf Tryz.hU Tryz.func139 (fun _ _ _ hB=> ?_);refine z.b5.c.g ?_
 cases u1 with
 |true=>
  replace h:=bif_t h
  refine z.n6.N.d4.d.n2.g ?_;refine l_nat (noEscape_spec Tryz.func193 (.ptr 2000101 0:AV)) ?_;refine l_fromunsafe (P:=Tryz.prog) ?_;refine z.d5.l9.b6.g ?_;apply za [(2000101,2000101)] hB h
 |false=>
  replace h:=bif_f h
  refine z.k5.b7.d.o6.f6.c.b7.d.n2.g ?_;apply za [(2000101,2000101)] hB h
theorem strings_Builder_grow_s1_ok {u1:Int}{u2:Bool}{r:Unit}(h:ZB u1 u2=some r):XSpec Tryz.prog 244 [.ptr 3000101 0,I u1] [(3000101,.box 102 [.nptr u2 3000101 0,.pl (.slice none 0 0)])] (.tup []) [(3000101,.box 102 [.nptr u2 3000101 0,.sl 3000151 0 0]),(3000151,.row 5 1 0 (F cU []))] []:=by
 unfold ZB at h;refine zf Tryz.hU Tryz.func244 (fun _ _ _ hB=> ?_);refine k_seq ?_;refine Z6 [] (.q 0 (.q 1 (.q 2 (.q 3 (.q 4 (.q 5 (.q 6 (.q 7 (.q 9 (.q 10 (.q 11 (.q 12 (.q 13 (.e 8 (.q 14 (.q 15 .done)))))))))))))))) hm ?_;refine z.K.p7.e1.d9.o7.x.q6.m.p6.e1.d9.g ?_;refine n_mnz Tryz.func260 h (fun v1 _ h=> ?_);refine gq ?_;refine n_subp h (fun h=> ?_);refine z.d5.l9.b6.N.d.q7.b5.p.P.e7.l5.m.g ?_;apply za [(3000101,3000101),(1013,3000151)] hB h
theorem Jj {u1:Int}{u2:Bool}{r:Unit}(h:qx u1 u2=some r):XSpec Tryz.prog 208 [.ptr 1000101 0,I u1] [(1000101,.box 102 [.nptr u2 1000101 0,.pl (.slice none 0 0)])] (.tup []) [(1000101,.box 102 [.nptr false 1000101 0,.sl 1000151 0 0]),(1000151,.row 5 1 0 (F cU []))] []:=by
 unfold qx at h;refine zf Tryz.hU Tryz.func208 (fun _ _ _ hB=> ?_);refine z.c.g ?_;refine zj [(2000101,1000101)] [1000101] h (fun _=>strings_Builder_copyCheck_s1_ok) (fun v1 _ h=> ?_);refine z.r.a1.d.g ?_;refine zo h (fun _ h=> ?_) (fun _ h=> ?_)
 ·refine k_reg ?_
  cases h
 refine z.h4.g ?_;refine Z6 [] (.q 0 (.q 1 (.q 2 (.q 3 (.q 4 (.q 5 (.q 6 (.q 7 (.q 8 (.q 9 (.q 10 (.q 11 (.q 12 .done))))))))))))) hm ?_;refine z.P.e7.e8.x.o8.m.p7.e1.d9.p6.e1.d9.g ?_;refine zo h (fun _ h=> ?_) (fun _ h=> ?_)
 ·refine z.N.g ?_;refine zj [(3000101,1000101),(3000151,102451)] [1000101] h (fun _=>strings_Builder_grow_s1_ok) (fun v2 _ h=> ?_);refine k_nil ?_;apply za [(1000101,1000101),(102451,1000151)] hB h
 refine k_skip ?_;refine f_nilcell (te:=5) (b1:=1000101) (j:=1) 10004011 1 ?_;apply za [(1000101,1000101),(10004011,1000151)] hB h
theorem strings_Builder_copyCheck_s2_ok {u1:Bool}{u2:Str}{r:Unit}(h:qN u1 u2=some r):XSpec Tryz.prog 139 [.ptr 5000101 0] [(5000101,.box 102 [.nptr u1 5000101 0,.sl 5000102 0 u2.length]),(5000102,.row 5 1 0 (F cU u2))] (.tup []) [(5000101,.box 102 [.nptr false 5000101 0,.sl 5000102 0 u2.length]),(5000102,.row 5 1 0 (F cU u2))] []:=by
 unfold qN at h;refine zf Tryz.hU Tryz.func139 (fun _ _ _ hB=> ?_);refine z.b5.c.g ?_
 cases u1 with
 |true=>
  replace h:=bif_t h
  refine z.n6.N.d4.d.n2.g ?_;refine l_nat (noEscape_spec Tryz.func193 (.ptr 5000101 0:AV)) ?_;refine l_fromunsafe (P:=Tryz.prog) ?_;refine z.d5.l9.b6.g ?_;apply za [(5000101,5000101),(5000102,5000102)] hB h
 |false=>
  replace h:=bif_f h
  refine z.k5.b7.d.o6.f6.c.b7.d.n2.g ?_;apply za [(5000101,5000101),(5000102,5000102)] hB h
theorem zg {u1:Str}{u2:Bool}{u3:Str}{r:Int×Str}(h:zc u1 u2 u3=some r):XSpec Tryz.prog 78 [.ptr 4000101 0,S u1] [(4000101,.box 102 [.nptr u2 4000101 0,.sl 4000102 0 u3.length]),(4000102,.row 5 1 0 (F cU u3))] (.tup [I r.1,.pl .nilIface]) [(4000101,.box 102 [.nptr false 4000101 0,.sl 4000102 0 r.2.length]),(4000102,.row 5 1 0 (F cU r.2))] [4000102]:=by
 unfold zc at h;refine zf Tryz.hU Tryz.func78 (fun _ _ _ hB=> ?_);refine z.C.b1.g ?_;refine zj [(5000101,4000101),(5000102,4000102)] [4000101,4000102] h (fun _=>strings_Builder_copyCheck_s2_ok) (fun v1 _ h=> ?_);refine z.f6.p.d.g ?_;refine l_apps h (fun v2 _ h=> ?_);refine z.H.Y.c.j9.g ?_;apply za [(4000101,4000101),(4000102,4000102)] hB h
theorem zK {u1:Bool}{u2:Str}{r:Str}(h:zv u1 u2=some r):XSpec Tryz.prog 79 [.ptr 6000101 0] [(6000101,.box 102 [.nptr u1 6000101 0,.sl 6000102 0 u2.length]),(6000102,.row 5 1 0 (F cU u2))] (S r) [(6000101,.box 102 [.nptr u1 6000101 0,.junk])] [6000102]:=by
 unfold zv at h;refine zf Tryz.hU Tryz.func79 (fun _ _ _ hB=> ?_);refine z.a9.b.g ?_;refine Z6 [10] (.q 0 (.q 1 (.q 2 (.q 3 (.q 5 (.q 6 (.q 7 (.q 8 (.q 9 (.e 4 (.e 10 (.q 11 .done)))))))))))) hm ?_;refine z.K.p8.K.m2.e1.d9.f7.d9.g ?_;refine n_ustr h (fun v1 _ h=> ?_);refine z.l3.P.e7.l5.m.g ?_;apply za [(6000101,6000101)] hB h
theorem strings_Replace_ok {s:Str}{old:Str}{new:Str}{n:Int}{r:Str}(h:QZ s old new n=some r):XSpec Tryz.prog 157 [S s,S old,S new,I n] [] (S r) [] []:=by
 unfold QZ at h;refine zf Tryz.hU Tryz.func157 (fun _ _ _ hB=> ?_);refine z.e2.b.g ?_;refine qW (fun q1=>(.normal,⟨[(0,S s),(1,S old),(2,S new),(3,I n),(22,B q1)],[],[]⟩)) h (fun t h=> ?_) (fun q1 h=> ?_)
 ·refine z.a.c2.N.g ?_;refine zb h (fun _ h=> ?_) (fun _ h=> ?_)
  ·refine z.L.k.g ?_;exact zm [] hB h
  refine z.c8.G.g ?_;exact zm [] hB h
 refine f_t ?_;refine zo h (fun _ h=> ?_) (fun _ h=> ?_)
 ·refine z.i9.e.c.g ?_;apply za [] hB h
 refine z.p.h4.g ?_;refine zl h (fun _=>strings_Count_ok) (fun v2 _ h=> ?_);refine z.r.C.g ?_;refine zo h (fun _ h=> ?_) (fun _ h=> ?_)
 ·refine z.i9.e.c.g ?_;apply za [] hB h
 refine k_seq ?_;refine qW (fun q3=>(.normal,⟨[(0,S s),(1,S old),(2,S new),(3,I n),(9,I v2),(36,B q3)],[],[]⟩)) h (fun t h=> ?_) (fun q3 h=> ?_)
 ·refine z.B.f.g ?_;refine zb h (fun _ h=> ?_) (fun _ h=> ?_)
  ·refine z.L.l.g ?_;exact zm [] hB h
  refine z.c8.G.c4.g ?_;exact zm [] hB h
 refine f_t ?_;refine zo h (fun _ h=> ?_) (fun _ h=> ?_)
 ·refine z.h6.n0.e4.Y.a.Y.a.a.Y.d1.d0.b.i.f.g ?_;refine l_npcell (b:=1010) (j:=0) 1010 0 ?_;refine zj [(1000101,1010),(1000151,104851)] [1010] h (fun _=>Jj) (fun v4 _ h=> ?_);refine z.r.Y.e5.d.g ?_;refine zo h (fun _ h=> ?_) (fun _ h=> ?_)
  ·refine z.k8.p.g ?_;refine zS (fun y5=>⟨[(0,S s),(1,S old),(2,S new),(10,.ptr 1010 0),(11,I y5.1),(52,I v2),(53,I y5.2.1)],[(1010,.box 102 [.nptr false 1010 0,.sl 104851 0 y5.2.2.length]),(104851,.row 5 1 0 (F cU y5.2.2))],[]⟩) (fun q11=>(.exit 0,⟨[(0,S s),(10,.ptr 1010 0),(11,I q11.1)],[(1010,.box 102 [.nptr false 1010 0,.sl 104851 0 q11.2.length]),(104851,.row 5 1 0 (F cU q11.2))],[]⟩)) [(1010,1010),(104851,104851)] hB h (fun y5 t h=> ?_) (fun q11 h=> ?_)
   ·unfold Zp at h;refine z.c0.g ?_;refine zo h (fun _ h=> ?_) (fun _ h=> ?_)
    ·refine z.a.p.I.g ?_;refine Za h (fun v6 _ h=> ?_);refine l_move ?_;refine zl h (fun _=>strings_Index_ok) (fun v7 _ h=> ?_);refine z.a.A.h6.g ?_;refine Za h (fun v8 _ h=> ?_);refine zj [(4000101,1010),(4000102,104851)] [1010,104851] h (fun _=>zg) (fun v9 _ h=> ?_);refine z.d1.g ?_;refine zj [(4000101,1010),(4000102,104851)] [1010,104851] h (fun _=>zg) (fun v10 _ h=> ?_);refine z.d7.i8.Y.N.d.g ?_;exact zt [(1010,1010),(104851,104851)] hB h
    refine z.s.g ?_;exact zq [(1010,1010),(104851,104851)] hB h
   refine z.p.E.g ?_;refine Za h (fun v12 _ h=> ?_);refine zj [(4000101,1010),(4000102,104851)] [1010,104851] h (fun _=>zg) (fun v13 _ h=> ?_);refine z.b.d.g ?_;refine zj [(6000101,1010),(6000102,104851)] [1010,104851] h (fun _=>zK) (fun v14 _ h=> ?_);refine z.e.g ?_;apply za [] hB h
  refine z.c.g ?_;refine zj [(4000101,1010),(4000102,104851)] [1010,104851] h (fun _=>zg) (fun v15 _ h=> ?_);refine z.k8.a.e4.d1.g ?_;refine zS (fun y16=>⟨[(0,S s),(2,S new),(10,.ptr 1010 0),(11,I y16.1),(77,I (w64 (v2-1))),(78,I y16.2.1)],[(1010,.box 102 [.nptr false 1010 0,.sl 104851 0 y16.2.2.length]),(104851,.row 5 1 0 (F cU y16.2.2))],[104851]⟩) (fun q22=>(.exit 2,⟨[(0,S s),(10,.ptr 1010 0),(11,I q22.1)],[(1010,.box 102 [.nptr false 1010 0,.sl 104851 0 q22.2.length]),(104851,.row 5 1 0 (F cU q22.2))],[104851]⟩)) [(1010,1010),(104851,104851)] hB h (fun y16 t h=> ?_) (fun q22 h=> ?_)
  ·unfold strings_Replace_b2 at h;refine z.c0.g ?_;refine zo h (fun _ h=> ?_) (fun _ h=> ?_)
   ·refine z.p.I.g ?_;refine Za h (fun v17 _ h=> ?_);refine zl h (fun _=>Jf) (fun v18 _ h=> ?_);refine z.a.A.h6.A.b2.g ?_;refine Za h (fun v19 _ h=> ?_);refine zj [(4000101,1010),(4000102,104851)] [1010,104851] h (fun _=>zg) (fun v20 _ h=> ?_);refine z.d1.g ?_;refine zj [(4000101,1010),(4000102,104851)] [1010,104851] h (fun _=>zg) (fun v21 _ h=> ?_);refine z.d7.q.f.d.g ?_;exact zt [(1010,1010),(104851,104851)] hB h
   refine z.s.g ?_;exact zq [(1010,1010),(104851,104851)] hB h
  refine z.p.E.g ?_;refine Za h (fun v23 _ h=> ?_);refine zj [(4000101,1010),(4000102,104851)] [1010,104851] h (fun _=>zg) (fun v24 _ h=> ?_);refine z.b.d.g ?_;refine zj [(6000101,1010),(6000102,104851)] [1010,104851] h (fun _=>zK) (fun v25 _ h=> ?_);refine z.e.g ?_;apply za [] hB h
 refine z.h6.n0.e4.Y.a.Y.a.a.Y.d1.d0.b.D.g ?_;refine l_npcell (b:=1010) (j:=0) 1010 0 ?_;refine zj [(1000101,1010),(1000151,104851)] [1010] h (fun _=>Jj) (fun v26 _ h=> ?_);refine z.r.Y.e5.d.g ?_;refine zo h (fun _ h=> ?_) (fun _ h=> ?_)
 ·refine z.k8.p.g ?_;refine zS (fun y27=>⟨[(0,S s),(1,S old),(2,S new),(10,.ptr 1010 0),(11,I y27.1),(52,I n),(53,I y27.2.1)],[(1010,.box 102 [.nptr false 1010 0,.sl 104851 0 y27.2.2.length]),(104851,.row 5 1 0 (F cU y27.2.2))],[]⟩) (fun q33=>(.exit 0,⟨[(0,S s),(10,.ptr 1010 0),(11,I q33.1)],[(1010,.box 102 [.nptr false 1010 0,.sl 104851 0 q33.2.length]),(104851,.row 5 1 0 (F cU q33.2))],[]⟩)) [(1010,1010),(104851,104851)] hB h (fun y27 t h=> ?_) (fun q33 h=> ?_)
  ·unfold strings_Replace_b3 at h;refine z.c0.g ?_;refine zo h (fun _ h=> ?_) (fun _ h=> ?_)
   ·refine z.a.p.I.g ?_;refine Za h (fun v28 _ h=> ?_);refine l_move ?_;refine zl h (fun _=>strings_Index_ok) (fun v29 _ h=> ?_);refine z.a.A.h6.g ?_;refine Za h (fun v30 _ h=> ?_);refine zj [(4000101,1010),(4000102,104851)] [1010,104851] h (fun _=>zg) (fun v31 _ h=> ?_);refine z.d1.g ?_;refine zj [(4000101,1010),(4000102,104851)] [1010,104851] h (fun _=>zg) (fun v32 _ h=> ?_);refine z.d7.i8.Y.N.d.g ?_;exact zt [(1010,1010),(104851,104851)] hB h
   refine z.s.g ?_;exact zq [(1010,1010),(104851,104851)] hB h
  refine z.p.E.g ?_;refine Za h (fun v34 _ h=> ?_);refine zj [(4000101,1010),(4000102,104851)] [1010,104851] h (fun _=>zg) (fun v35 _ h=> ?_);refine z.b.d.g ?_;refine zj [(6000101,1010),(6000102,104851)] [1010,104851] h (fun _=>zK) (fun v36 _ h=> ?_);refine z.e.g ?_;apply za [] hB h
 refine z.c.g ?_;refine zj [(4000101,1010),(4000102,104851)] [1010,104851] h (fun _=>zg) (fun v37 _ h=> ?_);refine z.k8.a.e4.d1.g ?_;refine zS (fun y38=>⟨[(0,S s),(2,S new),(10,.ptr 1010 0),(11,I y38.1),(77,I (w64 (n-1))),(78,I y38.2.1)],[(1010,.box 102 [.nptr false 1010 0,.sl 104851 0 y38.2.2.length]),(104851,.row 5 1 0 (F cU y38.2.2))],[104851]⟩) (fun q44=>(.exit 2,⟨[(0,S s),(10,.ptr 1010 0),(11,I q44.1)],[(1010,.box 102 [.nptr false 1010 0,.sl 104851 0 q44.2.length]),(104851,.row 5 1 0 (F cU q44.2))],[104851]⟩)) [(1010,1010),(104851,104851)] hB h (fun y38 t h=> ?_) (fun q44 h=> ?_)
 ·unfold strings_Replace_b4 at h;refine z.c0.g ?_;refine zo h (fun _ h=> ?_) (fun _ h=> ?_)
  ·refine z.p.I.g ?_;refine Za h (fun v39 _ h=> ?_);refine zl h (fun _=>Jf) (fun v40 _ h=> ?_);refine z.a.A.h6.A.b2.g ?_;refine Za h (fun v41 _ h=> ?_);refine zj [(4000101,1010),(4000102,104851)] [1010,104851] h (fun _=>zg) (fun v42 _ h=> ?_);refine z.d1.g ?_;refine zj [(4000101,1010),(4000102,104851)] [1010,104851] h (fun _=>zg) (fun v43 _ h=> ?_);refine z.d7.q.f.d.g ?_;exact zt [(1010,1010),(104851,104851)] hB h
  refine z.s.g ?_;exact zq [(1010,1010),(104851,104851)] hB h
 refine z.p.E.g ?_;refine Za h (fun v45 _ h=> ?_);refine zj [(4000101,1010),(4000102,104851)] [1010,104851] h (fun _=>zg) (fun v46 _ h=> ?_);refine z.b.d.g ?_;refine zj [(6000101,1010),(6000102,104851)] [1010,104851] h (fun _=>zK) (fun v47 _ h=> ?_);refine z.e.g ?_;apply za [] hB h
theorem strings_ReplaceAll_ok {s:Str}{old:Str}{new:Str}{r:Str}(h:Z0 s old new=some r):XSpec Tryz.prog 98 [S s,S old,S new] [] (S r) [] []:=by
 unfold Z0 at h;refine zf Tryz.hU Tryz.func98 (fun _ _ _ hB=> ?_);refine z.a.A.b.g ?_;refine zl h (fun _=>strings_Replace_ok) (fun v1 _ h=> ?_);refine z.e.g ?_;apply za [] hB h
theorem chars_Lines_ok {s:Str}{r:Str}(h:chars_Lines s=some r):XSpec Tryz.prog 59 [S s] [] (S r) [] []:=by
 unfold chars_Lines at h;refine zf Tryz.hU Tryz.func59 (fun _ _ _ hB=> ?_);refine z.b4.g ?_;refine zl h (fun _=>strings_ReplaceAll_ok) (fun v1 _ h=> ?_);refine zl h (fun _=>strings_ReplaceAll_ok) (fun v2 _ h=> ?_);refine z.e.g ?_;apply za [] hB h
theorem Jx {c:UInt8}{r:Bool}(h:ZX c=some r):XSpec Tryz.prog 99 [U c] [] (B r) [] []:=by
 unfold ZX at h;refine zf Tryz.hU Tryz.func99 (fun _ _ _ hB=> ?_);refine z.B.b4.g ?_;refine zb h (fun _ h=> ?_) (fun _ h=> ?_)
 ·refine z.X.k.a3.k.a3.k.g ?_;apply za [] hB h
 refine z.n.G.g ?_;refine zb h (fun _ h=> ?_) (fun _ h=> ?_)
 ·refine z.X.k.a3.k.g ?_;apply za [] hB h
 refine z.n.G.g ?_;refine zb h (fun _ h=> ?_) (fun _ h=> ?_)
 ·refine z.X.k.g ?_;apply za [] hB h
 refine z.c1.G.g ?_;apply za [] hB h
theorem Jw {s:Str}{prefix_:Str}{r:Bool}(h:qI s prefix_=some r):XSpec Tryz.prog 158 [S s,S prefix_] [] (B r) [] []:=by
 unfold qI at h;refine zf Tryz.hU Tryz.func158 (fun _ _ _ hB=> ?_);refine z.B.Y.a.Y.b4.g ?_;refine zb h (fun _ h=> ?_) (fun _ h=> ?_)
 ·refine z.b0.Y.h7.g ?_;refine Za h (fun v1 _ h=> ?_);refine z.X.c2.h.g ?_;apply za [] hB h
 refine z.c1.i1.g ?_;apply za [] hB h
theorem strings_HasPrefix_ok {s:Str}{prefix_:Str}{r:Bool}(h:ZC s prefix_=some r):XSpec Tryz.prog 101 [S s,S prefix_] [] (B r) [] []:=by
 unfold ZC at h;refine zf Tryz.hU Tryz.func101 (fun _ _ _ hB=> ?_);refine z.A.b.g ?_;refine zl h (fun _=>Jw) (fun v1 _ h=> ?_);refine z.e.g ?_;apply za [] hB h
theorem stringslite_CutPrefix_ok {s:Str}{prefix_:Str}{r:Str×Bool}(h:Z3 s prefix_=some r):XSpec Tryz.prog 197 [S s,S prefix_] [] (.tup [S r.1,B r.2]) [] []:=by
 unfold Z3 at h;refine zf Tryz.hU Tryz.func197 (fun _ _ _ hB=> ?_);refine z.p.a9.b1.g ?_;refine zl h (fun _=>Jw) (fun v1 _ h=> ?_);refine z.c7.g ?_;refine zo h (fun _ h=> ?_) (fun _ h=> ?_)
 ·refine z.f1.c.g ?_;apply za [] hB h
 refine z.Y.j0.g ?_;refine Za h (fun v2 _ h=> ?_);refine z.H.g ?_;apply za [] hB h
theorem Je {s:Str}{prefix_:Str}{r:Str×Bool}(h:qZ s prefix_=some r):XSpec Tryz.prog 144 [S s,S prefix_] [] (.tup [S r.1,B r.2]) [] []:=by
 unfold qZ at h;refine zf Tryz.hU Tryz.func144 (fun _ _ _ hB=> ?_);refine z.A.b1.g ?_;refine zl h (fun _=>stringslite_CutPrefix_ok) (fun v1 _ h=> ?_);refine z.H.m3.g ?_;apply za [] hB h
theorem Zg {s:Str}{substr:Str}{r:Bool}(h:qj s substr=some r):XSpec Tryz.prog 211 [S s,S substr] [] (B r) [] []:=by
 unfold qj at h;refine zf Tryz.hU Tryz.func211 (fun _ _ _ hB=> ?_);refine z.A.b.g ?_;refine zl h (fun _=>strings_Index_ok) (fun v1 _ h=> ?_);refine z.e.a8.g ?_;apply za [] hB h
theorem stringslite_Cut_ok {s:Str}{sep:Str}{r:Str×Str×Bool}(h:Jy s sep=some r):XSpec Tryz.prog 212 [S s,S sep] [] (.tup [S r.1,S r.2.1,B r.2.2]) [] []:=by
 unfold Jy at h;refine zf Tryz.hU Tryz.func212 (fun _ _ _ hB=> ?_);refine z.p.a9.w.b1.g ?_;refine zl h (fun _=>stringslite_Index_ok) (fun v1 _ h=> ?_);refine z.r.C.g ?_;refine zo h (fun _ h=> ?_) (fun _ h=> ?_)
 ·refine k_seq ?_;refine Z6 [] (.q 0 (.q 1 (.q 2 (.q 3 (.q 4 (.q 5 (.q 6 (.q 7 (.q 8 (.q 9 (.q 10 (.q 11 .done)))))))))))) hm ?_;refine z.x.j1.g ?_;refine n_subs h (fun v2 _ h=> ?_);refine z.m.o7.m.q8.x.j1.j1.g ?_;refine n_subs h (fun v3 _ h=> ?_);refine z.i9.l3.P.e7.l5.m.l5.m.l5.m.g ?_;apply za [] hB h
 refine z.H.w.v.g ?_;apply za [] hB h
theorem qK {s:Str}{sep:Str}{r:Str×Str×Bool}(h:qc s sep=some r):XSpec Tryz.prog 161 [S s,S sep] [] (.tup [S r.1,S r.2.1,B r.2.2]) [] []:=by
 unfold qc at h;refine zf Tryz.hU Tryz.func161 (fun _ _ _ hB=> ?_);refine z.A.w.b1.g ?_;refine zl h (fun _=>stringslite_Cut_ok) (fun v1 _ h=> ?_);refine z.H.w.j2.m3.g ?_;apply za [] hB h
theorem parse_fold_ok {s:Str}{r:Str}(h:parse_fold s=some r):XSpec Tryz.prog 160 [S s] [] (S r) [] []:=by
 unfold parse_fold at h;refine zf Tryz.hU Tryz.func160 (fun _ _ _ hB=> ?_);refine z.d6.O.n3.b4.g ?_;refine zS (fun y1=>⟨[(3,.sl 1007 0 y1.2.length),(8,.sl 1007 0 y1.2.length),(9,I (s.length:Int)),(10,I y1.1)],[(1007,.row 5 1 0 (F cU y1.2))],[]⟩) (fun q5=>(.exit 0,⟨[(3,.sl 1007 0 q5.length)],[(1007,.row 5 1 0 (F cU q5))],[]⟩)) [(1007,1007)] hB h (fun y1 t h=> ?_) (fun q5 h=> ?_)
 ·unfold Qh at h;refine z.c0.g ?_;refine zo h (fun _ h=> ?_) (fun _ h=> ?_)
  ·refine z.c.I.g ?_;refine QD h (fun v2 ev2 h=> ?_);refine QL ev2 ?_;refine z.B.C.w.g ?_;refine zb h (fun _ h=> ?_) (fun _ h=> ?_)
   ·refine z.l8.G.g ?_;refine zo h (fun _ h=> ?_) (fun _ h=> ?_)
    ·refine z.a.N.g ?_;refine l_addU v2 97 ?_;refine l_subU (v2+97) 65 ?_;refine QD h (fun v3 ev3 h=> ?_);refine l_put0 ev3 h (fun v4 ev4 h=> ?_);refine z.d7.d5.g ?_;refine JD 3 v4.length ?_;refine JD 8 v4.length ?_;exact zt [(1007,1007)] hB h
    refine z.d2.g ?_;exact zt [(1007,1007)] hB h
   refine z.d2.b7.V.k.g ?_;exact zt [(1007,1007)] hB h
  refine z.s.g ?_;exact zq [(1007,1007)] hB h
 refine z.e.o3.c.E.g ?_;apply za [] hB h
theorem name_in_ok {r_:Int}{l:(List zZ)}{r:Bool}(h:name_in r_ l=some r):XSpec Tryz.prog 236 [.pl (.int .i32 r_),.vs l.length (F c_TSpan l)] [] (B r) [] []:=by
 unfold name_in at h;refine zf Tryz.hU Tryz.func236 (fun _ _ _ hB=> ?_);refine z.d6.e5.g ?_;refine zS (fun y1=>⟨[(0,.pl (.int .i32 r_)),(7,.vs l.length (F c_TSpan l)),(8,I (l.length:Int)),(9,I y1)],[],[]⟩) (Sum.elim (fun q3=>(.ret,⟨[(4,B true)],[],[]⟩)) (fun q4=>(.exit 0,⟨[],[],[]⟩))) [] hB h (fun y1 t h=> ?_) (fun q h=> ?_)
 ·unfold Jk at h;refine z.c0.g ?_;refine zo h (fun _ h=> ?_) (fun _ h=> ?_)
  ·refine z.b.I.g ?_;refine Z5 h (fun v2 _ h=> ?_);refine z.B.T.c.c6.d0.b3.g ?_;refine zb h (fun _ h=> ?_) (fun _ h=> ?_)
   ·refine z.l8.b8.n7.h.g ?_;refine zo h (fun _ h=> ?_) (fun _ h=> ?_)
    ·refine z.i4.g ?_;exact zq [] hB h
    refine z.d2.g ?_;exact zt [] hB h
   refine z.d2.b7.V.j.g ?_;exact zt [] hB h
  refine z.s.g ?_;exact zq [] hB h
 rcases q with q3|q4
 ·dsimp only [Sum.elim] at h ⊢
  refine z.o.g ?_;apply za [] hB h
 dsimp only [Sum.elim] at h ⊢
 refine z.U.E.g ?_;apply za [] hB h
theorem name_Begins_ok {r_:Int}{r:Bool}(h:JJ r_=some r):XSpec Tryz.prog 195 [.pl (.int .i32 r_)] [] (B r) [] []:=by
 unfold JJ at h;refine zf Tryz.hU Tryz.func195 (fun _ _ _ hB=> ?_);refine z.B.b4.g ?_;refine zb h (fun _ h=> ?_) (fun _ h=> ?_)
 ·refine z.X.f3.j.j.j.j.g ?_;apply za [] hB h
 refine z.j3.j3.j3.j3.j3.j3.j3.j3.j3.j3.j3.j3.j3.j3.h.g ?_;refine QY (e:=c_TSpan) [(zZ.mk 65 90),(zZ.mk 97 122),(zZ.mk 192 214),(zZ.mk 216 246),(zZ.mk 248 767),(zZ.mk 880 893),(zZ.mk 895 8191),(zZ.mk 8204 8205),(zZ.mk 8304 8591),(zZ.mk 11264 12271),(zZ.mk 12289 55295),(zZ.mk 63744 64975),(zZ.mk 65008 65533),(zZ.mk 65536 983039)] ?_;refine l_on ?_;refine l_callB h (fun _=>name_in_ok) (fun v1 _ h=> ?_);refine z.c1.g ?_;apply za [] hB h
theorem name_Stands_ok {r_:Int}{r:Bool}(h:JM r_=some r):XSpec Tryz.prog 196 [.pl (.int .i32 r_)] [] (B r) [] []:=by
 unfold JM at h;refine zf Tryz.hU Tryz.func196 (fun _ _ _ hB=> ?_);refine z.b4.g ?_;refine zl h (fun _=>name_Begins_ok) (fun v1 _ h=> ?_);refine l_move ?_;refine zb h (fun _ h=> ?_) (fun _ h=> ?_)
 ·refine z.X.k.W.k.a3.k.a3.k.g ?_;apply za [] hB h
 refine z.n.G.g ?_;refine zb h (fun _ h=> ?_) (fun _ h=> ?_)
 ·refine z.X.k.W.k.a3.k.g ?_;apply za [] hB h
 refine z.n.G.g ?_;refine zb h (fun _ h=> ?_) (fun _ h=> ?_)
 ·refine z.X.k.W.k.g ?_;apply za [] hB h
 refine z.n.G.g ?_;refine zb h (fun _ h=> ?_) (fun _ h=> ?_)
 ·refine z.X.i1.g ?_;apply za [] hB h
 refine z.j3.j3.j3.h.g ?_;refine QY (e:=c_TSpan) [(zZ.mk 48 57),(zZ.mk 768 879),(zZ.mk 8255 8256)] ?_;refine l_on ?_;refine l_callB h (fun _=>name_in_ok) (fun v2 _ h=> ?_);refine z.c1.g ?_;apply za [] hB h
theorem ZY {s:Str}{r:Bool}(h:QR s=some r):XSpec Tryz.prog 143 [S s] [] (B r) [] []:=by
 unfold QR at h;refine zf Tryz.hU Tryz.func143 (fun _ _ _ hB=> ?_);refine z.n3.b4.g ?_;refine l_frz 1009 ?_;refine zj [(1,101001)] [] h (fun _=>utf_Chars_ok) (fun v1 _ h=> ?_);refine z.h8.O.b2.g ?_;refine zb h (fun _ h=> ?_) (fun _ h=> ?_)
 ·refine z.Z.f4.f3.W.l.g ?_;apply za [] hB h
 refine z.n.b8.F.h.g ?_;refine zb h (fun _ h=> ?_) (fun _ h=> ?_)
 ·refine z.Z.f4.f3.j.g ?_;apply za [] hB h
 refine z.h.g ?_;refine QD h (fun v2 ev2 h=> ?_);refine l_on ?_;refine QL ev2 ?_;refine l_on ?_;refine zl h (fun _=>name_Begins_ok) (fun v3 _ h=> ?_);refine z.V.R.g ?_;refine zo h (fun _ h=> ?_) (fun _ h=> ?_)
 ·refine z.Z.g ?_;apply za [] hB h
 refine z.d6.c.h4.g ?_;refine zS (fun y4=>⟨[(27,.sl 101001 0 v1.1.length),(28,I (v1.1.length:Int)),(29,I y4)],[(101001,.row 21 1 0 (F cR v1.1))],[]⟩) (Sum.elim (fun q7=>(.ret,⟨[(2,B false)],[],[]⟩)) (fun q8=>(.exit 0,⟨[],[],[]⟩))) [(101001,101001)] hB h (fun y4 t h=> ?_) (fun q h=> ?_)
 ·unfold Jl at h;refine z.c0.g ?_;refine zo h (fun _ h=> ?_) (fun _ h=> ?_)
  ·refine z.b.I.g ?_;refine QD h (fun v5 ev5 h=> ?_);refine QL ev5 ?_;refine z.C.g ?_;refine zl h (fun _=>name_Stands_ok) (fun v6 _ h=> ?_);refine z.c7.g ?_;refine zo h (fun _ h=> ?_) (fun _ h=> ?_)
   ·refine z.i4.g ?_;exact zq [] hB h
   refine z.d2.g ?_;exact zt [(101001,101001)] hB h
  refine z.s.g ?_;exact zq [] hB h
 rcases q with q7|q8
 ·dsimp only [Sum.elim] at h ⊢
  refine z.o.g ?_;apply za [] hB h
 dsimp only [Sum.elim] at h ⊢
 refine z.U.E.g ?_;apply za [] hB h
theorem name_Split_ok {s:Str}{r:Str×Str×Bool}(h:name_Split s=some r):XSpec Tryz.prog 165 [S s] [] (.tup [S r.1,S r.2.1,B r.2.2]) [] []:=by
 unfold name_Split at h;refine zf Tryz.hU Tryz.func165 (fun _ _ _ hB=> ?_);refine z.C.w.b1.g ?_;refine zl h (fun _=>qK) (fun v1 _ h=> ?_);refine z.c7.O.w.w.j2.j8.g ?_;refine zo h (fun _ h=> ?_) (fun _ h=> ?_)
 ·refine z.p.a9.w.f.g ?_;refine zb h (fun _ h=> ?_) (fun _ h=> ?_)
  ·refine z.h.g ?_;refine zl h (fun _=>ZY) (fun v2 _ h=> ?_);refine z.a3.R.g ?_;refine zb h (fun _ h=> ?_) (fun _ h=> ?_)
   ·refine z.f1.b1.f4.l.g ?_;apply za [] hB h
   refine z.h.g ?_;refine zl h (fun _=>ZY) (fun v3 _ h=> ?_);refine z.V.R.g ?_;refine zo h (fun _ h=> ?_) (fun _ h=> ?_)
   ·refine z.f1.b1.g ?_;apply za [] hB h
   refine z.H.w.j0.g ?_;apply za [] hB h
  refine z.h.n.l.g ?_;refine zl h (fun _=>ZY) (fun v4 _ h=> ?_);refine z.V.R.g ?_;refine zo h (fun _ h=> ?_) (fun _ h=> ?_)
  ·refine z.f1.b1.g ?_;apply za [] hB h
  refine z.H.w.j0.g ?_;apply za [] hB h
 refine z.p.h4.g ?_;refine zb h (fun _ h=> ?_) (fun _ h=> ?_)
 ·refine z.h.g ?_;refine zl h (fun _=>ZY) (fun v5 _ h=> ?_);refine z.a3.R.g ?_;refine zb h (fun _ h=> ?_) (fun _ h=> ?_)
  ·refine z.f1.b1.f4.l.g ?_;apply za [] hB h
  refine z.h.g ?_;refine zl h (fun _=>ZY) (fun v6 _ h=> ?_);refine z.V.R.g ?_;refine zo h (fun _ h=> ?_) (fun _ h=> ?_)
  ·refine z.f1.b1.g ?_;apply za [] hB h
  refine z.H.w.j0.g ?_;apply za [] hB h
 refine z.h.n.l.g ?_;refine zl h (fun _=>ZY) (fun v7 _ h=> ?_);refine z.V.R.g ?_;refine zo h (fun _ h=> ?_) (fun _ h=> ?_)
 ·refine z.f1.b1.g ?_;apply za [] hB h
 refine z.H.w.j0.g ?_;apply za [] hB h
theorem atomic_b32_ok {b:Bool}{r:Int}(h:atomic_b32 b=some r):XSpec Tryz.prog 289 [B b] [] (.pl (.int .u32 r)) [] []:=by
 unfold atomic_b32 at h;refine zf Tryz.hU Tryz.func289 (fun _ _ _ hB=> ?_);refine z.d.e5.g ?_;refine zo h (fun _ h=> ?_) (fun _ h=> ?_)
 ·refine z.Z.g ?_;apply za [] hB h
 refine z.U.D.g ?_;apply za [] hB h
theorem chars_named_ok {s:Str}{r:Str×Bool}(h:chars_named s=some r):XSpec Tryz.prog 266 [S s] [] (.tup [S r.1,B r.2]) [] []:=by
 unfold chars_named at h;refine zf Tryz.hU Tryz.func266 (fun _ _ _ hB=> ?_);refine z.i.c2.b.k8.O.b1.g ?_;refine zo h (fun _ h=> ?_) (fun _ h=> ?_)
 ·refine z.o.H.b.g ?_;apply za [] hB h
 refine z.i.c2.b.g ?_;refine zo h (fun _ h=> ?_) (fun _ h=> ?_)
 ·refine z.o.H.b.g ?_;apply za [] hB h
 refine z.i.c2.b.g ?_;refine zo h (fun _ h=> ?_) (fun _ h=> ?_)
 ·refine z.o.H.b.g ?_;apply za [] hB h
 refine z.i.c2.b.g ?_;refine zo h (fun _ h=> ?_) (fun _ h=> ?_)
 ·refine z.o.H.b.g ?_;apply za [] hB h
 refine z.i.c2.b.g ?_;refine zo h (fun _ h=> ?_) (fun _ h=> ?_)
 ·refine z.o.H.b.g ?_;apply za [] hB h
 refine z.H.b.k0.g ?_;apply za [] hB h
end Go.Proofs.YtojbjdcflgeibaaGreatDoor
