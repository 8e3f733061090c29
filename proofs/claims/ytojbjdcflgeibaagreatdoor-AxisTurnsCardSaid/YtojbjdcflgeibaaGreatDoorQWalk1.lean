/- WALKS, printed by aw.py: that the program's functions compute the plain ones. Conditions: none. -/
import Derived.Test.YtojbjdcflgeibaaGreatDoorProg
import Derived.Test.YtojbjdcflgeibaaGreatDoorAbsM3
import Derived.Test.YtojbjdcflgeibaaGreatDoorQPure
import Derived.Test.YtojbjdcflgeibaaGreatDoorLQWalk
import Derived.Test.YtojbjdcflgeibaaGreatDoorIQWalk
set_option linter.unusedVariables false
set_option linter.unusedSimpArgs false
set_option maxRecDepth 20000
set_option maxHeartbeats 4000000
namespace Go.Proofs.YtojbjdcflgeibaaGreatDoor
open Go Go.Abs W G
instance :GTab:=⟨[(0,(utf8First.flatMap (fun x:UInt8=>[Value.int .u8 (x.toNat:Int)]))),(1,(utf8Ranges.flatMap (fun x:JT=>[Value.int .u8 (x.lo.toNat:Int),Value.int .u8 (x.hi.toNat:Int)])))],[2],fun t=>Nat.beq t 5||Nat.beq t 6||Nat.beq t 318||Nat.beq t 319⟩
def Tryz.U:List (Nat×TI):=[
 (1,⟨.func #[] #[] false,1,8,.nilFunc⟩),
 (3,⟨.int .i64,1,8,.int .i64 0⟩),
 (4,⟨.bool,1,1,.bool false⟩),
 (5,⟨.int .u8,1,1,.int .u8 0⟩),
 (9,⟨.string,1,16,.string ⟨#[]⟩⟩),
 (12,⟨.int .u64,1,8,.int .u64 0⟩),
 (21,⟨.int .i32,1,4,.int .i32 0⟩),
 (22,⟨.slice 5,1,24,.slice none 0 0⟩),
 (24,⟨.pointer 111,1,8,.pointer none⟩),
 (25,⟨.int .i64,1,8,.int .i64 0⟩),
 (29,⟨.slice 3,1,24,.slice none 0 0⟩),
 (33,⟨.slice 48,1,24,.slice none 0 0⟩),
 (36,⟨.slice 39,1,24,.slice none 0 0⟩),
 (39,⟨.struct #[{name:= "Prefix",type:=9,offset:=0,embedded:=false,tag:= "",pkgPath:= "",byteOffset:=0},{name:= "URI",type:=9,offset:=1,embedded:=false,tag:= "",pkgPath:= "",byteOffset:=16}],2,32,.agg #[.string ⟨#[]⟩,.string ⟨#[]⟩]⟩),
 (46,⟨.slice 126,1,24,.slice none 0 0⟩),
 (48,⟨.struct #[{name:= "Kind",type:=3,offset:=0,embedded:=false,tag:= "",pkgPath:= "",byteOffset:=0},{name:= "Parent",type:=3,offset:=1,embedded:=false,tag:= "",pkgPath:= "",byteOffset:=8},{name:= "Prefix",type:=9,offset:=2,embedded:=false,tag:= "",pkgPath:= "",byteOffset:=16},{name:= "Local",type:=9,offset:=3,embedded:=false,tag:= "",pkgPath:= "",byteOffset:=32},{name:= "URI",type:=9,offset:=4,embedded:=false,tag:= "",pkgPath:= "",byteOffset:=48},{name:= "Text",type:=9,offset:=5,embedded:=false,tag:= "",pkgPath:= "",byteOffset:=64},{name:= "Decls",type:=36,offset:=6,embedded:=false,tag:= "",pkgPath:= "",byteOffset:=80},{name:= "Attrs",type:=46,offset:=7,embedded:=false,tag:= "",pkgPath:= "",byteOffset:=104}],8,128,.agg #[.int .i64 0,.int .i64 0,.string ⟨#[]⟩,.string ⟨#[]⟩,.string ⟨#[]⟩,.string ⟨#[]⟩,.slice none 0 0,.slice none 0 0]⟩),
 (51,⟨.slice 54,1,24,.slice none 0 0⟩),
 (54,⟨.struct #[{name:= "N",type:=3,offset:=0,embedded:=false,tag:= "",pkgPath:= "",byteOffset:=0},{name:= "Part",type:=3,offset:=1,embedded:=false,tag:= "",pkgPath:= "",byteOffset:=8},{name:= "I",type:=3,offset:=2,embedded:=false,tag:= "",pkgPath:= "",byteOffset:=16}],3,24,.agg #[.int .i64 0,.int .i64 0,.int .i64 0]⟩),
 (72,⟨.pointer 86,1,8,.pointer none⟩),
 (84,⟨.map 9 3,1,8,.map none⟩),
 (86,⟨.struct #[{name:= "Doc",type:=24,offset:=0,embedded:=true,tag:= "",pkgPath:= "",byteOffset:=0},{name:= "ids",type:=84,offset:=1,embedded:=false,tag:= "",pkgPath:= "apostille/ident",byteOffset:=8}],2,16,.agg #[.pointer none,.map none]⟩),
 (91,⟨.array 2 3,2,16,.agg #[.int .i64 0,.int .i64 0]⟩),
 (92,⟨.slice 91,1,24,.slice none 0 0⟩),
 (97,⟨.pointer 104,1,8,.pointer none⟩),
 (98,⟨.func #[9] #[9] false,1,8,.nilFunc⟩),
 (99,⟨.slice 194,1,24,.slice none 0 0⟩),
 (100,⟨.pointer 102,1,8,.pointer none⟩),
 (102,⟨.struct #[{name:= "addr",type:=100,offset:=0,embedded:=false,tag:= "",pkgPath:= "strings",byteOffset:=0},{name:= "buf",type:=22,offset:=1,embedded:=false,tag:= "",pkgPath:= "strings",byteOffset:=8}],2,32,.agg #[.pointer none,.slice none 0 0]⟩),
 (104,⟨.struct #[{name:= "s",type:=9,offset:=0,embedded:=false,tag:= "",pkgPath:= "apostille/parse",byteOffset:=0},{name:= "l",type:=33,offset:=1,embedded:=false,tag:= "",pkgPath:= "apostille/parse",byteOffset:=16},{name:= "path",type:=99,offset:=2,embedded:=false,tag:= "",pkgPath:= "apostille/parse",byteOffset:=40},{name:= "text",type:=102,offset:=3,embedded:=false,tag:= "",pkgPath:= "apostille/parse",byteOffset:=64},{name:= "top",type:=4,offset:=5,embedded:=false,tag:= "",pkgPath:= "apostille/parse",byteOffset:=96}],6,104,.agg #[.string ⟨#[]⟩,.slice none 0 0,.slice none 0 0,.pointer none,.slice none 0 0,.bool false]⟩),
 (107,⟨.struct #[{name:= "a",type:=24,offset:=0,embedded:=false,tag:= "",pkgPath:= "apostille/alike",byteOffset:=0},{name:= "b",type:=24,offset:=1,embedded:=false,tag:= "",pkgPath:= "apostille/alike",byteOffset:=8},{name:= "comments",type:=4,offset:=2,embedded:=false,tag:= "",pkgPath:= "apostille/alike",byteOffset:=16}],3,24,.agg #[.pointer none,.pointer none,.bool false]⟩),
 (109,⟨.func #[3] #[4] false,1,8,.nilFunc⟩),
 (111,⟨.struct #[{name:= "l",type:=33,offset:=0,embedded:=false,tag:= "",pkgPath:= "apostille/doc",byteOffset:=0},{name:= "end",type:=29,offset:=1,embedded:=false,tag:= "",pkgPath:= "apostille/doc",byteOffset:=24},{name:= "top",type:=3,offset:=2,embedded:=false,tag:= "",pkgPath:= "apostille/doc",byteOffset:=48}],3,56,.agg #[.slice none 0 0,.slice none 0 0,.int .i64 0]⟩),
 (112,⟨.pointer 114,1,8,.pointer none⟩),
 (114,⟨.struct #[{name:= "S",type:=9,offset:=0,embedded:=false,tag:= "",pkgPath:= "",byteOffset:=0},{name:= "At",type:=3,offset:=1,embedded:=false,tag:= "",pkgPath:= "",byteOffset:=16},{name:= "L",type:=33,offset:=2,embedded:=false,tag:= "",pkgPath:= "",byteOffset:=24},{name:= "Bad",type:=4,offset:=3,embedded:=false,tag:= "",pkgPath:= "",byteOffset:=48}],4,56,.agg #[.string ⟨#[]⟩,.int .i64 0,.slice none 0 0,.bool false]⟩),
 (117,⟨.slice 9,1,24,.slice none 0 0⟩),
 (120,⟨.map 9 4,1,8,.map none⟩),
 (126,⟨.struct #[{name:= "Prefix",type:=9,offset:=0,embedded:=false,tag:= "",pkgPath:= "",byteOffset:=0},{name:= "Local",type:=9,offset:=1,embedded:=false,tag:= "",pkgPath:= "",byteOffset:=16},{name:= "URI",type:=9,offset:=2,embedded:=false,tag:= "",pkgPath:= "",byteOffset:=32},{name:= "Value",type:=9,offset:=3,embedded:=false,tag:= "",pkgPath:= "",byteOffset:=48}],4,64,.agg #[.string ⟨#[]⟩,.string ⟨#[]⟩,.string ⟨#[]⟩,.string ⟨#[]⟩]⟩),
 (146,⟨.slice 21,1,24,.slice none 0 0⟩),
 (164,⟨.pointer 48,1,8,.pointer none⟩),
 (172,⟨.func #[39,39] #[3] false,1,8,.nilFunc⟩),
 (174,⟨.pointer 5,1,8,.pointer none⟩),
 (175,⟨.func #[126] #[4] false,1,8,.nilFunc⟩),
 (194,⟨.struct #[{name:= "n",type:=3,offset:=0,embedded:=false,tag:= "",pkgPath:= "apostille/parse",byteOffset:=0},{name:= "name",type:=9,offset:=1,embedded:=false,tag:= "",pkgPath:= "apostille/parse",byteOffset:=8}],2,24,.agg #[.int .i64 0,.string ⟨#[]⟩]⟩),
 (203,⟨.slice 205,1,24,.slice none 0 0⟩),
 (205,⟨.struct #[{name:= "n",type:=3,offset:=0,embedded:=false,tag:= "",pkgPath:= "apostille/alike",byteOffset:=0},{name:= "text",type:=9,offset:=1,embedded:=false,tag:= "",pkgPath:= "apostille/alike",byteOffset:=8},{name:= "is",type:=4,offset:=2,embedded:=false,tag:= "",pkgPath:= "apostille/alike",byteOffset:=24}],3,32,.agg #[.int .i64 0,.string ⟨#[]⟩,.bool false]⟩),
 (207,⟨.func #[205,205] #[4] false,1,8,.nilFunc⟩),
 (210,⟨.unsafePointer,1,8,.pointer none⟩),
 (222,⟨.func #[39] #[4] false,1,8,.nilFunc⟩),
 (228,⟨.struct #[{name:= "from",type:=21,offset:=0,embedded:=false,tag:= "",pkgPath:= "apostille/name",byteOffset:=0},{name:= "to",type:=21,offset:=1,embedded:=false,tag:= "",pkgPath:= "apostille/name",byteOffset:=4}],2,8,.agg #[.int .i32 0,.int .i32 0]⟩),
 (233,⟨.array 256 5,256,256,.agg #[.int .u8 0,.int .u8 0,.int .u8 0,.int .u8 0,.int .u8 0,.int .u8 0,.int .u8 0,.int .u8 0,.int .u8 0,.int .u8 0,.int .u8 0,.int .u8 0,.int .u8 0,.int .u8 0,.int .u8 0,.int .u8 0,.int .u8 0,.int .u8 0,.int .u8 0,.int .u8 0,.int .u8 0,.int .u8 0,.int .u8 0,.int .u8 0,.int .u8 0,.int .u8 0,.int .u8 0,.int .u8 0,.int .u8 0,.int .u8 0,.int .u8 0,.int .u8 0,.int .u8 0,.int .u8 0,.int .u8 0,.int .u8 0,.int .u8 0,.int .u8 0,.int .u8 0,.int .u8 0,.int .u8 0,.int .u8 0,.int .u8 0,.int .u8 0,.int .u8 0,.int .u8 0,.int .u8 0,.int .u8 0,.int .u8 0,.int .u8 0,.int .u8 0,.int .u8 0,.int .u8 0,.int .u8 0,.int .u8 0,.int .u8 0,.int .u8 0,.int .u8 0,.int .u8 0,.int .u8 0,.int .u8 0,.int .u8 0,.int .u8 0,.int .u8 0,.int .u8 0,.int .u8 0,.int .u8 0,.int .u8 0,.int .u8 0,.int .u8 0,.int .u8 0,.int .u8 0,.int .u8 0,.int .u8 0,.int .u8 0,.int .u8 0,.int .u8 0,.int .u8 0,.int .u8 0,.int .u8 0,.int .u8 0,.int .u8 0,.int .u8 0,.int .u8 0,.int .u8 0,.int .u8 0,.int .u8 0,.int .u8 0,.int .u8 0,.int .u8 0,.int .u8 0,.int .u8 0,.int .u8 0,.int .u8 0,.int .u8 0,.int .u8 0,.int .u8 0,.int .u8 0,.int .u8 0,.int .u8 0,.int .u8 0,.int .u8 0,.int .u8 0,.int .u8 0,.int .u8 0,.int .u8 0,.int .u8 0,.int .u8 0,.int .u8 0,.int .u8 0,.int .u8 0,.int .u8 0,.int .u8 0,.int .u8 0,.int .u8 0,.int .u8 0,.int .u8 0,.int .u8 0,.int .u8 0,.int .u8 0,.int .u8 0,.int .u8 0,.int .u8 0,.int .u8 0,.int .u8 0,.int .u8 0,.int .u8 0,.int .u8 0,.int .u8 0,.int .u8 0,.int .u8 0,.int .u8 0,.int .u8 0,.int .u8 0,.int .u8 0,.int .u8 0,.int .u8 0,.int .u8 0,.int .u8 0,.int .u8 0,.int .u8 0,.int .u8 0,.int .u8 0,.int .u8 0,.int .u8 0,.int .u8 0,.int .u8 0,.int .u8 0,.int .u8 0,.int .u8 0,.int .u8 0,.int .u8 0,.int .u8 0,.int .u8 0,.int .u8 0,.int .u8 0,.int .u8 0,.int .u8 0,.int .u8 0,.int .u8 0,.int .u8 0,.int .u8 0,.int .u8 0,.int .u8 0,.int .u8 0,.int .u8 0,.int .u8 0,.int .u8 0,.int .u8 0,.int .u8 0,.int .u8 0,.int .u8 0,.int .u8 0,.int .u8 0,.int .u8 0,.int .u8 0,.int .u8 0,.int .u8 0,.int .u8 0,.int .u8 0,.int .u8 0,.int .u8 0,.int .u8 0,.int .u8 0,.int .u8 0,.int .u8 0,.int .u8 0,.int .u8 0,.int .u8 0,.int .u8 0,.int .u8 0,.int .u8 0,.int .u8 0,.int .u8 0,.int .u8 0,.int .u8 0,.int .u8 0,.int .u8 0,.int .u8 0,.int .u8 0,.int .u8 0,.int .u8 0,.int .u8 0,.int .u8 0,.int .u8 0,.int .u8 0,.int .u8 0,.int .u8 0,.int .u8 0,.int .u8 0,.int .u8 0,.int .u8 0,.int .u8 0,.int .u8 0,.int .u8 0,.int .u8 0,.int .u8 0,.int .u8 0,.int .u8 0,.int .u8 0,.int .u8 0,.int .u8 0,.int .u8 0,.int .u8 0,.int .u8 0,.int .u8 0,.int .u8 0,.int .u8 0,.int .u8 0,.int .u8 0,.int .u8 0,.int .u8 0,.int .u8 0,.int .u8 0,.int .u8 0,.int .u8 0,.int .u8 0,.int .u8 0,.int .u8 0,.int .u8 0,.int .u8 0,.int .u8 0,.int .u8 0,.int .u8 0,.int .u8 0,.int .u8 0,.int .u8 0,.int .u8 0,.int .u8 0,.int .u8 0,.int .u8 0,.int .u8 0,.int .u8 0,.int .u8 0,.int .u8 0,.int .u8 0]⟩),
 (235,⟨.struct #[{name:= "lo",type:=5,offset:=0,embedded:=false,tag:= "",pkgPath:= "unicode/utf8",byteOffset:=0},{name:= "hi",type:=5,offset:=1,embedded:=false,tag:= "",pkgPath:= "unicode/utf8",byteOffset:=1}],2,2,.agg #[.int .u8 0,.int .u8 0]⟩),
 (236,⟨.array 16 235,32,32,.agg #[.int .u8 0,.int .u8 0,.int .u8 0,.int .u8 0,.int .u8 0,.int .u8 0,.int .u8 0,.int .u8 0,.int .u8 0,.int .u8 0,.int .u8 0,.int .u8 0,.int .u8 0,.int .u8 0,.int .u8 0,.int .u8 0,.int .u8 0,.int .u8 0,.int .u8 0,.int .u8 0,.int .u8 0,.int .u8 0,.int .u8 0,.int .u8 0,.int .u8 0,.int .u8 0,.int .u8 0,.int .u8 0,.int .u8 0,.int .u8 0,.int .u8 0,.int .u8 0]⟩),
 (237,⟨.int .u64,1,8,.int .u64 0⟩),
 (238,⟨.pointer 260,1,8,.pointer none⟩),
 (242,⟨.int .u32,1,4,.int .u32 0⟩),
 (243,⟨.slice 228,1,24,.slice none 0 0⟩),
 (244,⟨.int .u64,1,8,.int .u64 0⟩),
 (247,⟨.struct #[],0,0,.agg #[]⟩),
 (248,⟨.struct #[],0,0,.agg #[]⟩),
 (250,⟨.struct #[{name:= "_",type:=248,offset:=0,embedded:=false,tag:= "",pkgPath:= "sync/atomic",byteOffset:=0},{name:= "v",type:=242,offset:=0,embedded:=false,tag:= "",pkgPath:= "sync/atomic",byteOffset:=0}],1,4,.agg #[.int .u32 0]⟩),
 (252,⟨.struct #[{name:= "state",type:=21,offset:=0,embedded:=false,tag:= "",pkgPath:= "internal/sync",byteOffset:=0},{name:= "sema",type:=242,offset:=1,embedded:=false,tag:= "",pkgPath:= "internal/sync",byteOffset:=4}],2,8,.agg #[.int .i32 0,.int .u32 0]⟩),
 (254,⟨.struct #[{name:= "_",type:=247,offset:=0,embedded:=false,tag:= "",pkgPath:= "sync",byteOffset:=0},{name:= "mu",type:=252,offset:=0,embedded:=false,tag:= "",pkgPath:= "sync",byteOffset:=0}],2,8,.agg #[.int .i32 0,.int .u32 0]⟩),
 (256,⟨.struct #[{name:= "_",type:=247,offset:=0,embedded:=false,tag:= "",pkgPath:= "sync",byteOffset:=0},{name:= "done",type:=250,offset:=0,embedded:=false,tag:= "",pkgPath:= "sync",byteOffset:=0},{name:= "m",type:=254,offset:=1,embedded:=false,tag:= "",pkgPath:= "sync",byteOffset:=4}],3,12,.agg #[.int .u32 0,.int .i32 0,.int .u32 0]⟩),
 (258,⟨.interface #[("Replace",98),("WriteString",325)],1,16,.nilIface⟩),
 (260,⟨.struct #[{name:= "once",type:=256,offset:=0,embedded:=false,tag:= "",pkgPath:= "strings",byteOffset:=0},{name:= "r",type:=258,offset:=3,embedded:=false,tag:= "",pkgPath:= "strings",byteOffset:=16},{name:= "oldnew",type:=117,offset:=4,embedded:=false,tag:= "",pkgPath:= "strings",byteOffset:=32}],5,56,.agg #[.int .u32 0,.int .i32 0,.int .u32 0,.nilIface,.slice none 0 0]⟩),
 (271,⟨.pointer 256,1,8,.pointer none⟩),
 (276,⟨.pointer 242,1,8,.pointer none⟩),
 (278,⟨.pointer 294,1,8,.pointer none⟩),
 (280,⟨.pointer 300,1,8,.pointer none⟩),
 (282,⟨.array 256 5,256,256,.agg #[.int .u8 0,.int .u8 0,.int .u8 0,.int .u8 0,.int .u8 0,.int .u8 0,.int .u8 0,.int .u8 0,.int .u8 0,.int .u8 0,.int .u8 0,.int .u8 0,.int .u8 0,.int .u8 0,.int .u8 0,.int .u8 0,.int .u8 0,.int .u8 0,.int .u8 0,.int .u8 0,.int .u8 0,.int .u8 0,.int .u8 0,.int .u8 0,.int .u8 0,.int .u8 0,.int .u8 0,.int .u8 0,.int .u8 0,.int .u8 0,.int .u8 0,.int .u8 0,.int .u8 0,.int .u8 0,.int .u8 0,.int .u8 0,.int .u8 0,.int .u8 0,.int .u8 0,.int .u8 0,.int .u8 0,.int .u8 0,.int .u8 0,.int .u8 0,.int .u8 0,.int .u8 0,.int .u8 0,.int .u8 0,.int .u8 0,.int .u8 0,.int .u8 0,.int .u8 0,.int .u8 0,.int .u8 0,.int .u8 0,.int .u8 0,.int .u8 0,.int .u8 0,.int .u8 0,.int .u8 0,.int .u8 0,.int .u8 0,.int .u8 0,.int .u8 0,.int .u8 0,.int .u8 0,.int .u8 0,.int .u8 0,.int .u8 0,.int .u8 0,.int .u8 0,.int .u8 0,.int .u8 0,.int .u8 0,.int .u8 0,.int .u8 0,.int .u8 0,.int .u8 0,.int .u8 0,.int .u8 0,.int .u8 0,.int .u8 0,.int .u8 0,.int .u8 0,.int .u8 0,.int .u8 0,.int .u8 0,.int .u8 0,.int .u8 0,.int .u8 0,.int .u8 0,.int .u8 0,.int .u8 0,.int .u8 0,.int .u8 0,.int .u8 0,.int .u8 0,.int .u8 0,.int .u8 0,.int .u8 0,.int .u8 0,.int .u8 0,.int .u8 0,.int .u8 0,.int .u8 0,.int .u8 0,.int .u8 0,.int .u8 0,.int .u8 0,.int .u8 0,.int .u8 0,.int .u8 0,.int .u8 0,.int .u8 0,.int .u8 0,.int .u8 0,.int .u8 0,.int .u8 0,.int .u8 0,.int .u8 0,.int .u8 0,.int .u8 0,.int .u8 0,.int .u8 0,.int .u8 0,.int .u8 0,.int .u8 0,.int .u8 0,.int .u8 0,.int .u8 0,.int .u8 0,.int .u8 0,.int .u8 0,.int .u8 0,.int .u8 0,.int .u8 0,.int .u8 0,.int .u8 0,.int .u8 0,.int .u8 0,.int .u8 0,.int .u8 0,.int .u8 0,.int .u8 0,.int .u8 0,.int .u8 0,.int .u8 0,.int .u8 0,.int .u8 0,.int .u8 0,.int .u8 0,.int .u8 0,.int .u8 0,.int .u8 0,.int .u8 0,.int .u8 0,.int .u8 0,.int .u8 0,.int .u8 0,.int .u8 0,.int .u8 0,.int .u8 0,.int .u8 0,.int .u8 0,.int .u8 0,.int .u8 0,.int .u8 0,.int .u8 0,.int .u8 0,.int .u8 0,.int .u8 0,.int .u8 0,.int .u8 0,.int .u8 0,.int .u8 0,.int .u8 0,.int .u8 0,.int .u8 0,.int .u8 0,.int .u8 0,.int .u8 0,.int .u8 0,.int .u8 0,.int .u8 0,.int .u8 0,.int .u8 0,.int .u8 0,.int .u8 0,.int .u8 0,.int .u8 0,.int .u8 0,.int .u8 0,.int .u8 0,.int .u8 0,.int .u8 0,.int .u8 0,.int .u8 0,.int .u8 0,.int .u8 0,.int .u8 0,.int .u8 0,.int .u8 0,.int .u8 0,.int .u8 0,.int .u8 0,.int .u8 0,.int .u8 0,.int .u8 0,.int .u8 0,.int .u8 0,.int .u8 0,.int .u8 0,.int .u8 0,.int .u8 0,.int .u8 0,.int .u8 0,.int .u8 0,.int .u8 0,.int .u8 0,.int .u8 0,.int .u8 0,.int .u8 0,.int .u8 0,.int .u8 0,.int .u8 0,.int .u8 0,.int .u8 0,.int .u8 0,.int .u8 0,.int .u8 0,.int .u8 0,.int .u8 0,.int .u8 0,.int .u8 0,.int .u8 0,.int .u8 0,.int .u8 0,.int .u8 0,.int .u8 0,.int .u8 0,.int .u8 0,.int .u8 0,.int .u8 0,.int .u8 0,.int .u8 0,.int .u8 0,.int .u8 0,.int .u8 0,.int .u8 0,.int .u8 0,.int .u8 0,.int .u8 0,.int .u8 0,.int .u8 0,.int .u8 0,.int .u8 0]⟩),
 (283,⟨.pointer 282,1,8,.pointer none⟩),
 (284,⟨.array 256 22,256,6144,.agg #[.slice none 0 0,.slice none 0 0,.slice none 0 0,.slice none 0 0,.slice none 0 0,.slice none 0 0,.slice none 0 0,.slice none 0 0,.slice none 0 0,.slice none 0 0,.slice none 0 0,.slice none 0 0,.slice none 0 0,.slice none 0 0,.slice none 0 0,.slice none 0 0,.slice none 0 0,.slice none 0 0,.slice none 0 0,.slice none 0 0,.slice none 0 0,.slice none 0 0,.slice none 0 0,.slice none 0 0,.slice none 0 0,.slice none 0 0,.slice none 0 0,.slice none 0 0,.slice none 0 0,.slice none 0 0,.slice none 0 0,.slice none 0 0,.slice none 0 0,.slice none 0 0,.slice none 0 0,.slice none 0 0,.slice none 0 0,.slice none 0 0,.slice none 0 0,.slice none 0 0,.slice none 0 0,.slice none 0 0,.slice none 0 0,.slice none 0 0,.slice none 0 0,.slice none 0 0,.slice none 0 0,.slice none 0 0,.slice none 0 0,.slice none 0 0,.slice none 0 0,.slice none 0 0,.slice none 0 0,.slice none 0 0,.slice none 0 0,.slice none 0 0,.slice none 0 0,.slice none 0 0,.slice none 0 0,.slice none 0 0,.slice none 0 0,.slice none 0 0,.slice none 0 0,.slice none 0 0,.slice none 0 0,.slice none 0 0,.slice none 0 0,.slice none 0 0,.slice none 0 0,.slice none 0 0,.slice none 0 0,.slice none 0 0,.slice none 0 0,.slice none 0 0,.slice none 0 0,.slice none 0 0,.slice none 0 0,.slice none 0 0,.slice none 0 0,.slice none 0 0,.slice none 0 0,.slice none 0 0,.slice none 0 0,.slice none 0 0,.slice none 0 0,.slice none 0 0,.slice none 0 0,.slice none 0 0,.slice none 0 0,.slice none 0 0,.slice none 0 0,.slice none 0 0,.slice none 0 0,.slice none 0 0,.slice none 0 0,.slice none 0 0,.slice none 0 0,.slice none 0 0,.slice none 0 0,.slice none 0 0,.slice none 0 0,.slice none 0 0,.slice none 0 0,.slice none 0 0,.slice none 0 0,.slice none 0 0,.slice none 0 0,.slice none 0 0,.slice none 0 0,.slice none 0 0,.slice none 0 0,.slice none 0 0,.slice none 0 0,.slice none 0 0,.slice none 0 0,.slice none 0 0,.slice none 0 0,.slice none 0 0,.slice none 0 0,.slice none 0 0,.slice none 0 0,.slice none 0 0,.slice none 0 0,.slice none 0 0,.slice none 0 0,.slice none 0 0,.slice none 0 0,.slice none 0 0,.slice none 0 0,.slice none 0 0,.slice none 0 0,.slice none 0 0,.slice none 0 0,.slice none 0 0,.slice none 0 0,.slice none 0 0,.slice none 0 0,.slice none 0 0,.slice none 0 0,.slice none 0 0,.slice none 0 0,.slice none 0 0,.slice none 0 0,.slice none 0 0,.slice none 0 0,.slice none 0 0,.slice none 0 0,.slice none 0 0,.slice none 0 0,.slice none 0 0,.slice none 0 0,.slice none 0 0,.slice none 0 0,.slice none 0 0,.slice none 0 0,.slice none 0 0,.slice none 0 0,.slice none 0 0,.slice none 0 0,.slice none 0 0,.slice none 0 0,.slice none 0 0,.slice none 0 0,.slice none 0 0,.slice none 0 0,.slice none 0 0,.slice none 0 0,.slice none 0 0,.slice none 0 0,.slice none 0 0,.slice none 0 0,.slice none 0 0,.slice none 0 0,.slice none 0 0,.slice none 0 0,.slice none 0 0,.slice none 0 0,.slice none 0 0,.slice none 0 0,.slice none 0 0,.slice none 0 0,.slice none 0 0,.slice none 0 0,.slice none 0 0,.slice none 0 0,.slice none 0 0,.slice none 0 0,.slice none 0 0,.slice none 0 0,.slice none 0 0,.slice none 0 0,.slice none 0 0,.slice none 0 0,.slice none 0 0,.slice none 0 0,.slice none 0 0,.slice none 0 0,.slice none 0 0,.slice none 0 0,.slice none 0 0,.slice none 0 0,.slice none 0 0,.slice none 0 0,.slice none 0 0,.slice none 0 0,.slice none 0 0,.slice none 0 0,.slice none 0 0,.slice none 0 0,.slice none 0 0,.slice none 0 0,.slice none 0 0,.slice none 0 0,.slice none 0 0,.slice none 0 0,.slice none 0 0,.slice none 0 0,.slice none 0 0,.slice none 0 0,.slice none 0 0,.slice none 0 0,.slice none 0 0,.slice none 0 0,.slice none 0 0,.slice none 0 0,.slice none 0 0,.slice none 0 0,.slice none 0 0,.slice none 0 0,.slice none 0 0,.slice none 0 0,.slice none 0 0,.slice none 0 0,.slice none 0 0,.slice none 0 0,.slice none 0 0,.slice none 0 0,.slice none 0 0,.slice none 0 0,.slice none 0 0,.slice none 0 0,.slice none 0 0,.slice none 0 0,.slice none 0 0,.slice none 0 0,.slice none 0 0,.slice none 0 0,.slice none 0 0,.slice none 0 0,.slice none 0 0,.slice none 0 0,.slice none 0 0,.slice none 0 0,.slice none 0 0,.slice none 0 0,.slice none 0 0]⟩),
 (286,⟨.struct #[{name:= "replacements",type:=284,offset:=0,embedded:=false,tag:= "",pkgPath:= "strings",byteOffset:=0},{name:= "toReplace",type:=117,offset:=256,embedded:=false,tag:= "",pkgPath:= "strings",byteOffset:=6144}],257,6168,.agg #[.slice none 0 0,.slice none 0 0,.slice none 0 0,.slice none 0 0,.slice none 0 0,.slice none 0 0,.slice none 0 0,.slice none 0 0,.slice none 0 0,.slice none 0 0,.slice none 0 0,.slice none 0 0,.slice none 0 0,.slice none 0 0,.slice none 0 0,.slice none 0 0,.slice none 0 0,.slice none 0 0,.slice none 0 0,.slice none 0 0,.slice none 0 0,.slice none 0 0,.slice none 0 0,.slice none 0 0,.slice none 0 0,.slice none 0 0,.slice none 0 0,.slice none 0 0,.slice none 0 0,.slice none 0 0,.slice none 0 0,.slice none 0 0,.slice none 0 0,.slice none 0 0,.slice none 0 0,.slice none 0 0,.slice none 0 0,.slice none 0 0,.slice none 0 0,.slice none 0 0,.slice none 0 0,.slice none 0 0,.slice none 0 0,.slice none 0 0,.slice none 0 0,.slice none 0 0,.slice none 0 0,.slice none 0 0,.slice none 0 0,.slice none 0 0,.slice none 0 0,.slice none 0 0,.slice none 0 0,.slice none 0 0,.slice none 0 0,.slice none 0 0,.slice none 0 0,.slice none 0 0,.slice none 0 0,.slice none 0 0,.slice none 0 0,.slice none 0 0,.slice none 0 0,.slice none 0 0,.slice none 0 0,.slice none 0 0,.slice none 0 0,.slice none 0 0,.slice none 0 0,.slice none 0 0,.slice none 0 0,.slice none 0 0,.slice none 0 0,.slice none 0 0,.slice none 0 0,.slice none 0 0,.slice none 0 0,.slice none 0 0,.slice none 0 0,.slice none 0 0,.slice none 0 0,.slice none 0 0,.slice none 0 0,.slice none 0 0,.slice none 0 0,.slice none 0 0,.slice none 0 0,.slice none 0 0,.slice none 0 0,.slice none 0 0,.slice none 0 0,.slice none 0 0,.slice none 0 0,.slice none 0 0,.slice none 0 0,.slice none 0 0,.slice none 0 0,.slice none 0 0,.slice none 0 0,.slice none 0 0,.slice none 0 0,.slice none 0 0,.slice none 0 0,.slice none 0 0,.slice none 0 0,.slice none 0 0,.slice none 0 0,.slice none 0 0,.slice none 0 0,.slice none 0 0,.slice none 0 0,.slice none 0 0,.slice none 0 0,.slice none 0 0,.slice none 0 0,.slice none 0 0,.slice none 0 0,.slice none 0 0,.slice none 0 0,.slice none 0 0,.slice none 0 0,.slice none 0 0,.slice none 0 0,.slice none 0 0,.slice none 0 0,.slice none 0 0,.slice none 0 0,.slice none 0 0,.slice none 0 0,.slice none 0 0,.slice none 0 0,.slice none 0 0,.slice none 0 0,.slice none 0 0,.slice none 0 0,.slice none 0 0,.slice none 0 0,.slice none 0 0,.slice none 0 0,.slice none 0 0,.slice none 0 0,.slice none 0 0,.slice none 0 0,.slice none 0 0,.slice none 0 0,.slice none 0 0,.slice none 0 0,.slice none 0 0,.slice none 0 0,.slice none 0 0,.slice none 0 0,.slice none 0 0,.slice none 0 0,.slice none 0 0,.slice none 0 0,.slice none 0 0,.slice none 0 0,.slice none 0 0,.slice none 0 0,.slice none 0 0,.slice none 0 0,.slice none 0 0,.slice none 0 0,.slice none 0 0,.slice none 0 0,.slice none 0 0,.slice none 0 0,.slice none 0 0,.slice none 0 0,.slice none 0 0,.slice none 0 0,.slice none 0 0,.slice none 0 0,.slice none 0 0,.slice none 0 0,.slice none 0 0,.slice none 0 0,.slice none 0 0,.slice none 0 0,.slice none 0 0,.slice none 0 0,.slice none 0 0,.slice none 0 0,.slice none 0 0,.slice none 0 0,.slice none 0 0,.slice none 0 0,.slice none 0 0,.slice none 0 0,.slice none 0 0,.slice none 0 0,.slice none 0 0,.slice none 0 0,.slice none 0 0,.slice none 0 0,.slice none 0 0,.slice none 0 0,.slice none 0 0,.slice none 0 0,.slice none 0 0,.slice none 0 0,.slice none 0 0,.slice none 0 0,.slice none 0 0,.slice none 0 0,.slice none 0 0,.slice none 0 0,.slice none 0 0,.slice none 0 0,.slice none 0 0,.slice none 0 0,.slice none 0 0,.slice none 0 0,.slice none 0 0,.slice none 0 0,.slice none 0 0,.slice none 0 0,.slice none 0 0,.slice none 0 0,.slice none 0 0,.slice none 0 0,.slice none 0 0,.slice none 0 0,.slice none 0 0,.slice none 0 0,.slice none 0 0,.slice none 0 0,.slice none 0 0,.slice none 0 0,.slice none 0 0,.slice none 0 0,.slice none 0 0,.slice none 0 0,.slice none 0 0,.slice none 0 0,.slice none 0 0,.slice none 0 0,.slice none 0 0,.slice none 0 0,.slice none 0 0,.slice none 0 0,.slice none 0 0,.slice none 0 0,.slice none 0 0,.slice none 0 0,.slice none 0 0,.slice none 0 0,.slice none 0 0,.slice none 0 0,.slice none 0 0,.slice none 0 0,.slice none 0 0,.slice none 0 0,.slice none 0 0,.slice none 0 0,.slice none 0 0,.slice none 0 0]⟩),
 (287,⟨.pointer 286,1,8,.pointer none⟩),
 (302,⟨.pointer 252,1,8,.pointer none⟩),
 (304,⟨.pointer 21,1,8,.pointer none⟩)]
theorem Tryz.hU:TabOk Tryz.prog Tryz.U:=
 .cons (by kernel_rfl) (by kernel_rfl)<|
 .cons (by kernel_rfl) (by kernel_rfl)<|
 .cons (by kernel_rfl) (by kernel_rfl)<|
 .cons (by kernel_rfl) (by kernel_rfl)<|
 .cons (by kernel_rfl) (by kernel_rfl)<|
 .cons (by kernel_rfl) (by kernel_rfl)<|
 .cons (by kernel_rfl) (by kernel_rfl)<|
 .cons (by kernel_rfl) (by kernel_rfl)<|
 .cons (by kernel_rfl) (by kernel_rfl)<|
 .cons (by kernel_rfl) (by kernel_rfl)<|
 .cons (by kernel_rfl) (by kernel_rfl)<|
 .cons (by kernel_rfl) (by kernel_rfl)<|
 .cons (by kernel_rfl) (by kernel_rfl)<|
 .cons (by kernel_rfl) (by kernel_rfl)<|
 .cons (by kernel_rfl) (by kernel_rfl)<|
 .cons (by kernel_rfl) (by kernel_rfl)<|
 .cons (by kernel_rfl) (by kernel_rfl)<|
 .cons (by kernel_rfl) (by kernel_rfl)<|
 .cons (by kernel_rfl) (by kernel_rfl)<|
 .cons (by kernel_rfl) (by kernel_rfl)<|
 .cons (by kernel_rfl) (by kernel_rfl)<|
 .cons (by kernel_rfl) (by kernel_rfl)<|
 .cons (by kernel_rfl) (by kernel_rfl)<|
 .cons (by kernel_rfl) (by kernel_rfl)<|
 .cons (by kernel_rfl) (by kernel_rfl)<|
 .cons (by kernel_rfl) (by kernel_rfl)<|
 .cons (by kernel_rfl) (by kernel_rfl)<|
 .cons (by kernel_rfl) (by kernel_rfl)<|
 .cons (by kernel_rfl) (by kernel_rfl)<|
 .cons (by kernel_rfl) (by kernel_rfl)<|
 .cons (by kernel_rfl) (by kernel_rfl)<|
 .cons (by kernel_rfl) (by kernel_rfl)<|
 .cons (by kernel_rfl) (by kernel_rfl)<|
 .cons (by kernel_rfl) (by kernel_rfl)<|
 .cons (by kernel_rfl) (by kernel_rfl)<|
 .cons (by kernel_rfl) (by kernel_rfl)<|
 .cons (by kernel_rfl) (by kernel_rfl)<|
 .cons (by kernel_rfl) (by kernel_rfl)<|
 .cons (by kernel_rfl) (by kernel_rfl)<|
 .cons (by kernel_rfl) (by kernel_rfl)<|
 .cons (by kernel_rfl) (by kernel_rfl)<|
 .cons (by kernel_rfl) (by kernel_rfl)<|
 .cons (by kernel_rfl) (by kernel_rfl)<|
 .cons (by kernel_rfl) (by kernel_rfl)<|
 .cons (by kernel_rfl) (by kernel_rfl)<|
 .cons (by kernel_rfl) (by kernel_rfl)<|
 .cons (by kernel_rfl) (by kernel_rfl)<|
 .cons (by kernel_rfl) (by kernel_rfl)<|
 .cons (by kernel_rfl) (by kernel_rfl)<|
 .cons (by kernel_rfl) (by kernel_rfl)<|
 .cons (by kernel_rfl) (by kernel_rfl)<|
 .cons (by kernel_rfl) (by kernel_rfl)<|
 .cons (by kernel_rfl) (by kernel_rfl)<|
 .cons (by kernel_rfl) (by kernel_rfl)<|
 .cons (by kernel_rfl) (by kernel_rfl)<|
 .cons (by kernel_rfl) (by kernel_rfl)<|
 .cons (by kernel_rfl) (by kernel_rfl)<|
 .cons (by kernel_rfl) (by kernel_rfl)<|
 .cons (by kernel_rfl) (by kernel_rfl)<|
 .cons (by kernel_rfl) (by kernel_rfl)<|
 .cons (by kernel_rfl) (by kernel_rfl)<|
 .cons (by kernel_rfl) (by kernel_rfl)<|
 .cons (by kernel_rfl) (by kernel_rfl)<|
 .cons (by kernel_rfl) (by kernel_rfl)<|
 .cons (by kernel_rfl) (by kernel_rfl)<|
 .cons (by kernel_rfl) (by kernel_rfl)<|
 .cons (by kernel_rfl) (by kernel_rfl)<|
 .cons (by kernel_rfl) (by kernel_rfl)<|
 .cons (by kernel_rfl) (by kernel_rfl)<|
 .cons (by kernel_rfl) (by kernel_rfl)<|
 .cons (by kernel_rfl) (by kernel_rfl)<|
 .cons (by kernel_rfl) (by kernel_rfl)<|
 .cons (by kernel_rfl) (by kernel_rfl)<|
 .cons (by kernel_rfl) (by kernel_rfl)<|
 .cons (by kernel_rfl) (by kernel_rfl)<|
 .cons (by kernel_rfl) (by kernel_rfl)<|
 .nil _
theorem hm:Tryz.prog.follows .mixedOrders=true:=by kernel_rfl
theorem hs54:Tryz.prog.stoodInHeld 54=false:=by kernel_rfl
theorem he54:Tryz.prog.eqGuardType Tryz.prog.depth 54=false:=by kernel_rfl
def zl (x:zb):List AV:=[S x.Prefix,S x.URI]
def qp (x:zP):List AV:=[S x.Prefix,S x.Local,S x.URI,S x.Value]
def zm (x:zf):List AV:=[I x.Kind,I x.Parent,S x.Prefix,S x.Local,S x.URI,S x.Text,.vs x.Decls.length (F zl x.Decls),.vs x.Attrs.length (F qp x.Attrs)]
def zt (x:zv):List AV:=[I x.n,S x.name]
def c_TSpan (x:qe):List AV:=[.pl (.int .i32 x.from_),.pl (.int .i32 x.to_)]
def Zs (x:qg):List AV:=[.vs x.l.length (F zm x.l),.vs x.end_.length (F cI x.end_),I x.top]
def zG (x:zk):List AV:=[I x.N,I x.Part,I x.I]
def c_TAnon (x:ZE):List AV:=[I x.e0,I x.e1]
theorem ZI {s:Str}{r:Int}(h:qO s=some r):XSpec Tryz.prog 241 [.vs s.length (F cU s)] [] (.pl (.int .u64 r)) [] []:=by
 unfold qO at h;refine zc Tryz.hU Tryz.func241 (fun _ _ _ hB=> ?_);refine z.e3.i4.k4.g ?_;refine qX [] (.q 0 (.q 1 (.q 2 (.q 3 (.q 4 (.q 5 (.q 6 (.q 7 (.q 8 (.q 9 (.q 10 (.q 11 (.q 12 (.q 13 (.q 14 (.q 15 (.q 16 (.q 17 (.q 18 (.q 19 (.q 20 (.q 21 (.q 22 (.q 23 (.q 24 (.q 25 (.q 26 (.q 27 (.q 28 (.q 29 (.q 30 (.q 31 (.q 32 (.q 33 (.q 34 (.q 35 (.q 36 (.q 37 (.q 38 (.q 39 (.q 40 (.q 41 (.q 42 (.q 43 (.q 44 (.q 45 (.q 46 .done))))))))))))))))))))))))))))))))))))))))))))))) hm ?_;refine z.A.g ?_;refine n_at h (fun v1 _ h=> ?_);refine z.A.o4.d.i5.g ?_;refine n_at h (fun v2 _ h=> ?_);refine z.d.o4.d.i5.g ?_;refine n_shlC (r:=(v64 (v2.toNat:Int))*2^8) ?_;refine z.A.m7.d.g ?_;refine n_at h (fun v3 _ h=> ?_);refine z.d.o4.d.i5.g ?_;refine n_shlC (r:=(v64 (v3.toNat:Int))*2^16) ?_;refine z.A.m7.d.g ?_;refine n_at h (fun v4 _ h=> ?_);refine z.d.o4.d.i5.g ?_;refine n_shlC (r:=(v64 (v4.toNat:Int))*2^24) ?_;refine z.A.m7.d.g ?_;refine n_at h (fun v5 _ h=> ?_);refine z.d.o4.d.i5.g ?_;refine n_shlC (r:=(v64 (v5.toNat:Int))*2^32) ?_;refine z.A.m7.d.g ?_;refine n_at h (fun v6 _ h=> ?_);refine z.d.o4.d.i5.g ?_;refine n_shlC (r:=(v64 (v6.toNat:Int))*2^40) ?_;refine z.A.m7.d.g ?_;refine n_at h (fun v7 _ h=> ?_);refine z.d.o4.d.i5.g ?_;refine n_shlC (r:=(v64 (v7.toNat:Int))*2^48) ?_;refine z.A.m7.d.g ?_;refine n_at h (fun v8 _ h=> ?_);refine z.d.o4.d.i5.g ?_;refine n_shlC (r:=(v64 (v8.toNat:Int))*2^56) ?_;refine z.h6.f2.k5.m7.d.g ?_;apply za [] hB h
theorem utf8_Valid_ok {p:Str}{r:Bool}(h:utf8_Valid p=some r):XSpec Tryz.prog 205 [.vs p.length (F cU p)] [] (B r) [] []:=by
 unfold utf8_Valid at h;refine zc Tryz.hU Tryz.func205 (fun _ _ _ hB=> ?_);refine z.I.a.I.k6.g ?_;refine l_sub3 h (fun v1 _ h=> ?_);refine z.c6.b1.g ?_;refine zF (fun y2=>⟨[(0,.vs y2.length (F cU y2))],[],[]⟩) (Sum.elim (fun q40=>(.ret,⟨[(2,B false)],[],[]⟩)) (fun q41=>(.exit 0,⟨[],[],[]⟩))) [] hB h (fun y2 t h=> ?_) (fun q h=> ?_)
 ·unfold Jc at h;refine z.q.I.V.g ?_;refine zn h (fun _ h=> ?_) (fun _ h=> ?_)
  ·refine z.b.l6.g ?_;refine Qh h (fun v3 _ h=> ?_);refine z.q.J.h7.g ?_;refine zn h (fun _ h=> ?_) (fun _ h=> ?_)
   ·refine z.b.g ?_;refine l_subf h (fun v4 _ h=> ?_);refine z.f3.g ?_;refine qQ (fun q6=>(.normal,⟨[(0,.vs v4.length (F cU v4)),(31,B q6)],[],[]⟩)) h (fun t h=> ?_) (fun q6 h=> ?_)
    ·refine z.F.I.m.g ?_;refine zd h (fun _ h=> ?_) (fun _ h=> ?_)
     ·refine z.f.g ?_;refine zo h (fun _=>ZI) (fun v5 _ h=> ?_);refine z.P.c7.i6.a5.g ?_;exact zq [] hB h
     refine z.c8.j.g ?_;exact zq [] hB h
    refine f_t ?_;refine zn h (fun _ h=> ?_) (fun _ h=> ?_)
    ·refine z.b.g ?_;refine l_subf h (fun v7 _ h=> ?_);refine z.b1.g ?_;refine qQ (fun q11=>(.normal,⟨[(0,.vs v7.length (F cU v7)),(46,B q11)],[],[]⟩)) h (fun t h=> ?_) (fun q11 h=> ?_)
     ·refine qX [] (.q 0 (.q 1 (.q 2 (.q 3 (.q 4 (.q 6 (.q 7 (.e 5 (.e 8 (.q 9 (.q 10 (.q 11 (.q 12 .done))))))))))))) hm ?_;refine z.A.b3.d.n2.A.g ?_;refine QP h (fun _ h=> ?_) (fun _ h=> ?_)
      ·refine z.b8.b8.h0.g ?_;refine n_subf h (fun v8 _ h=> ?_);refine z.L.g ?_;refine n_call h (fun _=>ZI) (fun v9 _ h=> ?_);refine z.L.g ?_;refine n_call h (fun _=>ZI) (fun v10 _ h=> ?_);refine z.a0.d.b3.u.m7.u.m7.u.g ?_;exact zq [] hB h
      refine z.d9.p7.d0.n7.v.n7.X.g ?_;exact zq [] hB h
     refine f_t ?_;refine zn h (fun _ h=> ?_) (fun _ h=> ?_)
     ·refine z.b.g ?_;refine l_subf h (fun v12 _ h=> ?_);refine z.h8.g ?_;refine zF (fun y13=>⟨[(0,.vs y13.length (F cU y13))],[],[]⟩) (fun q22=>(.exit 2,⟨[(0,.vs q22.length (F cU q22))],[],[]⟩)) [] hB h (fun y13 t h=> ?_) (fun q22 h=> ?_)
      ·unfold Q5 at h;refine z.T.T.g ?_;refine qX [] (.q 0 (.q 1 (.q 2 (.q 3 (.q 4 (.q 6 (.q 7 (.q 10 (.q 11 (.q 13 (.q 14 (.e 5 (.e 8 (.q 9 (.e 12 (.e 15 (.q 16 (.q 17 (.q 18 (.q 19 (.q 20 .done))))))))))))))))))))) hm ?_;refine z.A.b3.d.n2.A.g ?_;refine QP h (fun _ h=> ?_) (fun _ h=> ?_)
       ·refine z.b8.b8.h0.g ?_;refine n_subf h (fun v14 _ h=> ?_);refine z.b8.u.g ?_;refine n_subf h (fun v15 _ h=> ?_);refine z.b8.u.g ?_;refine n_subf h (fun v16 _ h=> ?_);refine z.L.g ?_;refine n_call h (fun _=>ZI) (fun v17 _ h=> ?_);refine z.L.g ?_;refine n_call h (fun _=>ZI) (fun v18 _ h=> ?_);refine z.L.m7.u.g ?_;refine n_call h (fun _=>ZI) (fun v19 _ h=> ?_);refine z.L.g ?_;refine n_call h (fun _=>ZI) (fun v20 _ h=> ?_);refine z.e0.a0.d.b3.u.m7.u.m7.u.m7.u.g ?_;refine zn h (fun _ h=> ?_) (fun _ h=> ?_)
        ·refine z.m.l6.g ?_;refine l_subf h (fun v21 _ h=> ?_);refine z.j1.g ?_;exact zu [] hB h
        refine z.l.g ?_;exact zr [] hB h
       refine z.l.i4.f2.p7.o6.d0.n7.v.n7.o6.v.n7.v.n7.X.f4.g ?_;exact zr [] hB h
      refine z.n9.l.c2.g ?_;exact zu [] hB h
     refine z.n9.l.M.g ?_;exact zu [] hB h
    refine z.n9.l.M.g ?_;exact zu [] hB h
   refine z.t.g ?_;refine l_atg (ev:=(fun x:UInt8=>[Value.int .u8 (x.toNat:Int)])) 0 h (fun v23 _ h=> ?_);refine z.w.h1.w.h7.g ?_;refine l_shrU v23 4 ?_;refine l_atg (ev:=(fun x:JT=>[Value.int .u8 (x.lo.toNat:Int),Value.int .u8 (x.hi.toNat:Int)])) 1 h (fun v24 _ h=> ?_);refine z.d2.c.m4.b.e7.d1.a6.g ?_;refine zn h (fun _ h=> ?_) (fun _ h=> ?_)
   ·refine z.T.T.g ?_;refine qX [] (.q 0 (.q 1 (.q 2 (.q 3 (.q 4 (.q 5 (.q 6 (.q 7 (.q 8 (.q 9 (.q 10 (.q 11 (.q 12 (.q 13 (.q 14 (.q 15 (.q 16 (.q 17 (.q 18 .done))))))))))))))))))) hm ?_;refine z.A.b3.d.n2.A.g ?_;refine QP h (fun _ h=> ?_) (fun _ h=> ?_)
    ·refine z.C.j2.e8.e0.a0.X.f7.X.f4.g ?_;exact zr [] hB h
    refine z.b8.h0.g ?_;refine n_at h (fun v25 _ h=> ?_);refine z.A.n3.b3.b6.Y.m8.u.g ?_;refine QP h (fun _ h=> ?_) (fun _ h=> ?_)
    ·refine z.C.j2.e8.e0.a0.X.f4.g ?_;exact zr [] hB h
    refine z.b8.b6.o7.h0.g ?_;refine n_at h (fun v26 _ h=> ?_);refine z.e0.p4.b3.b6.u.g ?_;refine zn h (fun _ h=> ?_) (fun _ h=> ?_)
    ·refine z.C.j2.g ?_;exact zr [] hB h
    refine z.m.M.g ?_;refine l_subf h (fun v27 _ h=> ?_);refine z.h2.j1.g ?_;exact zu [] hB h
   refine z.d2.c.g ?_;refine zn h (fun _ h=> ?_) (fun _ h=> ?_)
   ·refine z.T.T.g ?_;refine qX [] (.q 0 (.q 1 (.q 2 (.q 3 (.q 4 (.q 5 (.q 6 (.q 7 (.q 8 (.q 9 (.q 10 (.q 11 (.q 12 (.q 13 (.q 14 (.q 15 (.q 16 (.q 17 (.q 18 (.q 19 (.q 20 (.q 21 (.q 22 (.q 23 (.q 24 (.q 25 (.q 26 (.q 27 (.q 28 (.q 29 (.q 30 .done))))))))))))))))))))))))))))))) hm ?_;refine z.A.b3.d.n2.A.g ?_;refine QP h (fun _ h=> ?_) (fun _ h=> ?_)
    ·refine z.C.j2.e8.e0.a0.f7.f7.X.f7.X.f4.g ?_;exact zr [] hB h
    refine z.b8.h0.g ?_;refine n_at h (fun v28 _ h=> ?_);refine z.A.n3.b3.b6.Y.m8.u.g ?_;refine QP h (fun _ h=> ?_) (fun _ h=> ?_)
    ·refine z.C.j2.e8.e0.a0.f7.f7.X.f4.g ?_;exact zr [] hB h
    refine z.b8.b6.o7.h0.g ?_;refine n_at h (fun v29 _ h=> ?_);refine z.A.n3.b3.b6.u.g ?_;refine QP h (fun _ h=> ?_) (fun _ h=> ?_)
    ·refine z.C.j2.e8.e0.a0.f7.f4.g ?_;exact zr [] hB h
    refine z.b8.h0.g ?_;refine n_at h (fun v30 _ h=> ?_);refine z.A.n3.b3.b6.u.g ?_;refine QP h (fun _ h=> ?_) (fun _ h=> ?_)
    ·refine z.C.j2.e8.e0.a0.f4.g ?_;exact zr [] hB h
    refine z.b8.h0.g ?_;refine n_at h (fun v31 _ h=> ?_);refine z.e0.p4.b3.b6.u.g ?_;refine zn h (fun _ h=> ?_) (fun _ h=> ?_)
    ·refine z.C.j2.g ?_;exact zr [] hB h
    refine z.m.M.g ?_;refine l_subf h (fun v32 _ h=> ?_);refine z.h2.j1.g ?_;exact zu [] hB h
   refine z.d2.c.g ?_;refine zn h (fun _ h=> ?_) (fun _ h=> ?_)
   ·refine z.T.T.g ?_;refine qX [] (.q 0 (.q 1 (.q 2 (.q 3 (.q 4 (.q 5 (.q 6 (.q 7 (.q 8 (.q 9 (.q 10 (.q 11 (.q 12 (.q 13 (.q 14 (.q 15 (.q 16 (.q 17 (.q 18 (.q 19 (.q 20 (.q 21 (.q 22 (.q 23 (.q 24 (.q 25 (.q 26 (.q 27 (.q 28 (.q 29 (.q 30 (.q 31 (.q 32 (.q 33 (.q 34 (.q 35 (.q 36 (.q 37 (.q 38 (.q 39 (.q 40 (.q 41 (.q 42 .done))))))))))))))))))))))))))))))))))))))))))) hm ?_;refine z.A.b3.d.n2.A.g ?_;refine QP h (fun _ h=> ?_) (fun _ h=> ?_)
    ·refine z.C.j2.e8.e0.a0.f7.f7.f7.f7.X.f7.X.f4.g ?_;exact zr [] hB h
    refine z.b8.h0.g ?_;refine n_at h (fun v33 _ h=> ?_);refine z.A.n3.b3.b6.Y.m8.u.g ?_;refine QP h (fun _ h=> ?_) (fun _ h=> ?_)
    ·refine z.C.j2.e8.e0.a0.f7.f7.f7.f7.X.f4.g ?_;exact zr [] hB h
    refine z.b8.b6.o7.h0.g ?_;refine n_at h (fun v34 _ h=> ?_);refine z.A.n3.b3.b6.u.g ?_;refine QP h (fun _ h=> ?_) (fun _ h=> ?_)
    ·refine z.C.j2.e8.e0.a0.f7.f7.f7.f4.g ?_;exact zr [] hB h
    refine z.b8.h0.g ?_;refine n_at h (fun v35 _ h=> ?_);refine z.A.n3.b3.b6.u.g ?_;refine QP h (fun _ h=> ?_) (fun _ h=> ?_)
    ·refine z.C.j2.e8.e0.a0.f7.f7.f4.g ?_;exact zr [] hB h
    refine z.b8.h0.g ?_;refine n_at h (fun v36 _ h=> ?_);refine z.A.n3.b3.b6.u.g ?_;refine QP h (fun _ h=> ?_) (fun _ h=> ?_)
    ·refine z.C.j2.e8.e0.a0.f7.f4.g ?_;exact zr [] hB h
    refine z.b8.h0.g ?_;refine n_at h (fun v37 _ h=> ?_);refine z.A.n3.b3.b6.u.g ?_;refine QP h (fun _ h=> ?_) (fun _ h=> ?_)
    ·refine z.C.j2.e8.e0.a0.f4.g ?_;exact zr [] hB h
    refine z.b8.h0.g ?_;refine n_at h (fun v38 _ h=> ?_);refine z.e0.p4.b3.b6.u.g ?_;refine zn h (fun _ h=> ?_) (fun _ h=> ?_)
    ·refine z.C.j2.g ?_;exact zr [] hB h
    refine z.m.M.g ?_;refine l_subf h (fun v39 _ h=> ?_);refine z.h2.j1.g ?_;exact zu [] hB h
   refine z.C.C.e1.g ?_;exact zr [] hB h
  refine z.l.g ?_;exact zr [] hB h
 rcases q with q40|q41
 ·dsimp only [Sum.elim] at h ⊢
  refine z.B.g ?_;apply za [] hB h
 dsimp only [Sum.elim] at h ⊢
 refine z.l7.g ?_;apply za [] hB h
theorem utf_Valid_ok {b:Str}{r:Bool}(h:utf_Valid b=some r):XSpec Tryz.prog 155 [.vs b.length (F cU b)] [] (B r) [] []:=by
 unfold utf_Valid at h;refine zc Tryz.hU Tryz.func155 (fun _ _ _ hB=> ?_);refine z.a1.g ?_;refine zo h (fun _=>utf8_Valid_ok) (fun v1 _ h=> ?_);refine z.h.g ?_;apply za [] hB h
theorem utf8_decodeRuneSlow_ok {p:Str}{r:Int×Int}(h:Qo p=some r):XSpec Tryz.prog 206 [.vs p.length (F cU p)] [] (.tup [.pl (.int .i32 r.1),I r.2]) [] []:=by
 unfold Qo at h;refine zc Tryz.hU Tryz.func206 (fun _ _ _ hB=> ?_);refine z.q.J.I.w.a7.g ?_;refine zn h (fun _ h=> ?_) (fun _ h=> ?_)
 ·refine z.U.g ?_;apply za [] hB h
 refine z.t.g ?_;refine Qh h (fun v1 _ h=> ?_);refine z.w.h7.g ?_;refine l_atg (ev:=(fun x:UInt8=>[Value.int .u8 (x.toNat:Int)])) 0 h (fun v2 _ h=> ?_);refine z.q.J.h7.g ?_;refine zn h (fun _ h=> ?_) (fun _ h=> ?_)
 ·refine z.h9.b.g ?_;refine l_shlC (r:=(w32 (v2.toNat:Int))*2^31) ?_;refine QV (r:=((w32 ((w32 (v2.toNat:Int))*2^31)).fdiv (2^31))) ?_;refine z.w.g ?_;refine Qh h (fun v3 _ h=> ?_);refine z.h3.i6.i6.a.i6.a.h9.h7.g ?_;apply za [] hB h
 refine z.w.h1.t.g ?_;refine l_shrU v2 4 ?_;refine l_atg (ev:=(fun x:JT=>[Value.int .u8 (x.lo.toNat:Int),Value.int .u8 (x.hi.toNat:Int)])) 1 h (fun v4 _ h=> ?_);refine z.i0.e7.d1.a6.g ?_;refine zn h (fun _ h=> ?_) (fun _ h=> ?_)
 ·refine z.U.g ?_;apply za [] hB h
 refine z.t.g ?_;refine Qh h (fun v5 _ h=> ?_);refine z.f3.h7.g ?_;refine qQ (fun q6=>(.normal,⟨[(0,.vs p.length (F cU p)),(5,U v1),(8,I (w64 ((u8 (band 8 (v2.toNat:Int) 7)).toNat:Int))),(10,U v5),(60,B q6)],[],[]⟩)) h (fun t h=> ?_) (fun q6 h=> ?_)
 ·refine z.F.G.m.g ?_;refine zd h (fun _ h=> ?_) (fun _ h=> ?_)
  ·refine z.P.j.g ?_;exact zq [] hB h
  refine z.c8.r.p8.a5.g ?_;exact zq [] hB h
 refine f_t ?_;refine zn h (fun _ h=> ?_) (fun _ h=> ?_)
 ·refine z.U.g ?_;apply za [] hB h
 refine z.q.b.e3.g ?_;refine zn h (fun _ h=> ?_) (fun _ h=> ?_)
 ·refine z.h1.b.g ?_;refine l_shlC (r:=(w32 ((u8 (band 8 (v1.toNat:Int) 31)).toNat:Int))*2^6) ?_;refine z.h3.i6.h1.a.g ?_;apply za [] hB h
 refine z.t.g ?_;refine Qh h (fun v7 _ h=> ?_);refine z.f3.h7.g ?_;refine qQ (fun q8=>(.normal,⟨[(0,.vs p.length (F cU p)),(5,U v1),(8,I (w64 ((u8 (band 8 (v2.toNat:Int) 7)).toNat:Int))),(10,U v5),(11,U v7),(79,B q8)],[],[]⟩)) h (fun t h=> ?_) (fun q8 h=> ?_)
 ·refine z.l8.g ?_;refine zd h (fun _ h=> ?_) (fun _ h=> ?_)
  ·refine z.P.n.g ?_;exact zq [] hB h
  refine z.c8.r.g ?_;exact zq [] hB h
 refine f_t ?_;refine zn h (fun _ h=> ?_) (fun _ h=> ?_)
 ·refine z.U.g ?_;apply za [] hB h
 refine z.q.b.e3.g ?_;refine zn h (fun _ h=> ?_) (fun _ h=> ?_)
 ·refine z.h1.b.g ?_;refine l_shlC (r:=(w32 ((u8 (band 8 (v1.toNat:Int) 15)).toNat:Int))*2^12) ?_;refine z.h1.a.g ?_;refine l_shlC (r:=(w32 ((u8 (band 8 (v5.toNat:Int) 63)).toNat:Int))*2^6) ?_;refine z.h3.i6.h1.a.i6.g ?_;apply za [] hB h
 refine z.t.g ?_;refine Qh h (fun v9 _ h=> ?_);refine z.f3.h7.g ?_;refine qQ (fun q10=>(.normal,⟨[(5,U v1),(10,U v5),(11,U v7),(12,U v9),(103,B q10)],[],[]⟩)) h (fun t h=> ?_) (fun q10 h=> ?_)
 ·refine z.l8.g ?_;refine zd h (fun _ h=> ?_) (fun _ h=> ?_)
  ·refine z.P.n.g ?_;exact zq [] hB h
  refine z.c8.r.g ?_;exact zq [] hB h
 refine f_t ?_;refine zn h (fun _ h=> ?_) (fun _ h=> ?_)
 ·refine z.U.g ?_;apply za [] hB h
 refine z.h1.t.g ?_;refine l_shlC (r:=(w32 ((u8 (band 8 (v1.toNat:Int) 7)).toNat:Int))*2^18) ?_;refine z.h1.a.g ?_;refine l_shlC (r:=(w32 ((u8 (band 8 (v5.toNat:Int) 63)).toNat:Int))*2^12) ?_;refine z.h1.a.i6.g ?_;refine l_shlC (r:=(w32 ((u8 (band 8 (v7.toNat:Int) 63)).toNat:Int))*2^6) ?_;refine z.N.i6.h1.a.i6.g ?_;apply za [] hB h
theorem utf8_DecodeRune_ok {p:Str}{r:Int×Int}(h:zaa p=some r):XSpec Tryz.prog 156 [.vs p.length (F cU p)] [] (.tup [.pl (.int .i32 r.1),I r.2]) [] []:=by
 unfold zaa at h;refine zc Tryz.hU Tryz.func156 (fun _ _ _ hB=> ?_);refine z.d3.J.a7.g ?_;refine zF (fun y1=>⟨[(0,.vs p.length (F cU p)),(6,.vs p.length (F cU p)),(7,I (p.length:Int)),(8,I 0)],[],[]⟩) (Sum.elim (fun q3=>(.ret,⟨[(2,.pl (.int .i32 q3)),(3,I 1)],[],[]⟩)) (fun q4=>(.exit 0,⟨[(0,.vs p.length (F cU p))],[],[]⟩))) [] hB h (fun y1 t h=> ?_) (fun q h=> ?_)
 ·unfold JR at h;refine z.a8.g ?_;refine zn h (fun _ h=> ?_) (fun _ h=> ?_)
  ·refine z.c.W.g ?_;refine Qh h (fun v2 _ h=> ?_);refine z.q.J.h7.g ?_;refine zn h (fun _ h=> ?_) (fun _ h=> ?_)
   ·refine z.B.h3.h9.b.g ?_;exact zr [] hB h
   refine z.r3.r2.r1.M.g ?_;exact zr [] hB h
  refine z.l.g ?_;exact zr [] hB h
 rcases q with q3|q4
 ·dsimp only [Sum.elim] at h ⊢
  refine z.B.g ?_;apply za [] hB h
 dsimp only [Sum.elim] at h ⊢
 refine z.k7.g ?_;refine zo h (fun _=>utf8_decodeRuneSlow_ok) (fun v5 _ h=> ?_);refine z.N.k8.g ?_;apply za [] hB h
theorem utf_Chars_ok {b:Str}{r:(List Int)×Bool}(h:utf_Chars b=some r):XSpec Tryz.prog 96 [.vs b.length (F cU b)] [] (.tup [.sl 1 0 r.1.length,B r.2]) [(1,.row 21 1 0 (F cR r.1))] []:=by
 unfold utf_Chars at h;refine zc Tryz.hU Tryz.func96 (fun _ _ _ hB=> ?_);refine z.J.a7.g ?_;refine zo h (fun _=>utf_Valid_ok) (fun v1 _ h=> ?_);refine z.d4.g ?_;refine zn h (fun _ h=> ?_) (fun _ h=> ?_)
 ·refine z.U.g ?_;refine Jv (te:=21) (t:=2) 3002 1 ?_;apply za [(3002,1)] hB h
 refine z.h8.c.k4.M.g ?_;refine k_nilrow (te:=21) (t:=4) 3004 1 ?_;refine zF (fun y2=>⟨[(0,.vs b.length (F cU b)),(4,.sl 3004 0 y2.2.length),(5,I y2.1)],[(3004,.row 21 1 0 (F cR y2.2))],[]⟩) (fun q6=>(.exit 0,⟨[(4,.sl 3004 0 q6.length)],[(3004,.row 21 1 0 (F cR q6))],[]⟩)) [(3004,3004)] hB h (fun y2 t h=> ?_) (fun q6 h=> ?_)
 ·unfold JZ at h;refine z.q.I.m5.g ?_;refine zn h (fun _ h=> ?_) (fun _ h=> ?_)
  ·refine z.i.l6.g ?_;refine l_subf h (fun v3 _ h=> ?_);refine zo h (fun _=>utf8_DecodeRune_ok) (fun v4 _ h=> ?_);refine z.O.b7.g ?_;refine Z6 (e:=cR) [v4.1] ?_;refine Jp h (fun v5 _ h=> ?_);refine z.h2.l9.y.o.g ?_;exact zu [(3004,3004)] hB h
  refine z.l.g ?_;exact zr [(3004,3004)] hB h
 refine z.N.k7.g ?_;apply za [(3004,1)] hB h
theorem utf_Xml_ok {r_:Int}{r:Bool}(h:utf_Xml r_=some r):XSpec Tryz.prog 97 [.pl (.int .i32 r_)] [] (B r) [] []:=by
 unfold utf_Xml at h;refine zc Tryz.hU Tryz.func97 (fun _ _ _ hB=> ?_);refine z.k4.g ?_;refine qQ (Sum.elim (fun q1=>(.ret,⟨[(2,B true)],[],[]⟩)) (fun q2=>(.normal,⟨[(0,.pl (.int .i32 r_))],[],[]⟩))) h (fun t h=> ?_) (fun q h=> ?_)
 ·refine z.d2.V.c6.g ?_;refine zn h (fun _ h=> ?_) (fun _ h=> ?_)
  ·refine z.M.g ?_;refine zn h (fun _ h=> ?_) (fun _ h=> ?_)
   ·refine z.C.e1.g ?_;exact zq [] hB h
   refine z.h2.Q.g ?_;exact zq [] hB h
  refine z.d2.b.g ?_;refine zn h (fun _ h=> ?_) (fun _ h=> ?_)
  ·refine z.M.g ?_;refine zn h (fun _ h=> ?_) (fun _ h=> ?_)
   ·refine z.C.e1.g ?_;exact zq [] hB h
   refine z.h2.Q.g ?_;exact zq [] hB h
  refine z.d2.m.g ?_;refine zn h (fun _ h=> ?_) (fun _ h=> ?_)
  ·refine z.C.e1.g ?_;exact zq [] hB h
  refine z.h2.Q.g ?_;exact zq [] hB h
 rcases q with q1|q2
 ·dsimp only [Sum.elim] at h ⊢
  refine f_tr ?_;apply za [] hB h
 dsimp only [Sum.elim] at h ⊢
 refine z.F.b.e0.g ?_;refine zd h (fun _ h=> ?_) (fun _ h=> ?_)
 ·refine z.a2.r.g ?_;refine zd h (fun _ h=> ?_) (fun _ h=> ?_)
  ·refine z.c3.n.K.n.j.g ?_;apply za [] hB h
  refine z.x.r.g ?_;refine zd h (fun _ h=> ?_) (fun _ h=> ?_)
  ·refine z.p.j3.r.g ?_;refine zd h (fun _ h=> ?_) (fun _ h=> ?_)
   ·refine z.c3.n.j.g ?_;apply za [] hB h
   refine z.x.r.g ?_;refine zd h (fun _ h=> ?_) (fun _ h=> ?_)
   ·refine z.b9.j3.r.g ?_;apply za [] hB h
   refine z.b9.j4.n.g ?_;apply za [] hB h
  refine z.x.r.p.j4.n.g ?_;refine zd h (fun _ h=> ?_) (fun _ h=> ?_)
  ·refine z.b9.j3.r.g ?_;apply za [] hB h
  refine z.b9.j4.n.g ?_;apply za [] hB h
 refine z.x.r.p.n.g ?_;refine zd h (fun _ h=> ?_) (fun _ h=> ?_)
 ·refine z.p.j3.r.g ?_;refine zd h (fun _ h=> ?_) (fun _ h=> ?_)
  ·refine z.c3.n.j.g ?_;apply za [] hB h
  refine z.x.r.g ?_;refine zd h (fun _ h=> ?_) (fun _ h=> ?_)
  ·refine z.b9.j3.r.g ?_;apply za [] hB h
  refine z.b9.j4.n.g ?_;apply za [] hB h
 refine z.x.r.p.j4.n.g ?_;refine zd h (fun _ h=> ?_) (fun _ h=> ?_)
 ·refine z.b9.j3.r.g ?_;apply za [] hB h
 refine z.b9.j4.n.g ?_;apply za [] hB h
theorem utf_Text_ok {b:Str}{r:Bool}(h:utf_Text b=some r):XSpec Tryz.prog 58 [.vs b.length (F cU b)] [] (B r) [] []:=by
 unfold utf_Text at h;refine zc Tryz.hU Tryz.func58 (fun _ _ _ hB=> ?_);refine z.a1.g ?_;refine zg [(1,100901)] [] h (fun _=>utf_Chars_ok) (fun v1 _ h=> ?_);refine z.d3.J.b7.g ?_;refine zF (fun y2=>⟨[(4,B y2.1),(12,.sl 100901 0 v1.1.length),(13,I (v1.1.length:Int)),(14,I y2.2)],[(100901,.row 21 1 0 (F cR v1.1))],[]⟩) (fun q5=>(.exit 0,⟨[(4,B q5)],[],[]⟩)) [(100901,100901)] hB h (fun y2 t h=> ?_) (fun q5 h=> ?_)
 ·unfold zaZ at h;refine z.a8.g ?_;refine zn h (fun _ h=> ?_) (fun _ h=> ?_)
  ·refine z.c.W.g ?_;refine QT h (fun v3 ev3 h=> ?_);refine Q7 ev3 ?_;refine z.y.o.g ?_;refine zd h (fun _ h=> ?_) (fun _ h=> ?_)
   ·refine z.f.g ?_;refine zo h (fun _=>utf_Xml_ok) (fun v4 _ h=> ?_);refine z.e4.s.c4.g ?_;exact zu [(100901,100901)] hB h
   refine z.e4.s.f5.g ?_;exact zu [(100901,100901)] hB h
  refine z.l.g ?_;exact zr [] hB h
 refine z.h.k7.g ?_;apply za [] hB h
theorem strings_Count_ok {s sep:Str}{r:Int}(h:zaF s sep=some r):XSpec Tryz.prog 207 [S s,S sep] [] (I r) [] []:=by
 unfold zaF at h
 cases e:decide (s.length<4294967281∧1≤sep.length) with
 |false=>rw [e] at h;cases h
 |true=>
  rw [e] at h;cases h
  have e:=of_decide_eq_true e
  exact lift_x (args:=[.string ⟨s.toArray⟩,.string ⟨sep.toArray⟩]) (fun es w=>enters_of Tryz.func207 (by kernel_rfl) rfl es w) (fun w hi=>by
   obtain ⟨n,hn⟩:=hi 2 (by decide)
   exact Tryz.strings_Count_any ⟨s.toArray⟩ ⟨sep.toArray⟩ n w e.1 hn e.2)
theorem stringslite_Index_ok {s sep:Str}{r:Int}(h:stringslite_Index s sep=some r):XSpec Tryz.prog 245 [S s,S sep] [] (I r) [] []:=by
 unfold stringslite_Index at h
 cases e:decide (s.length<4294967281) with
 |false=>rw [e] at h;cases h
 |true=>
  rw [e] at h;cases h
  have e:=of_decide_eq_true e
  exact lift_x (args:=[.string ⟨s.toArray⟩,.string ⟨sep.toArray⟩]) (fun es w=>enters_of Tryz.func245 (by kernel_rfl) rfl es w) (fun w hi=>by
   obtain ⟨n,hn⟩:=hi 2 (by decide)
   exact Tryz.stringslite_Index ⟨s.toArray⟩ ⟨sep.toArray⟩ n w e hn)
theorem strings_Index_ok {s:Str}{substr:Str}{r:Int}(h:QC s substr=some r):XSpec Tryz.prog 209 [S s,S substr] [] (I r) [] []:=by
 unfold QC at h;refine zc Tryz.hU Tryz.func209 (fun _ _ _ hB=> ?_);refine z.k6.g ?_;refine zo h (fun _=>stringslite_Index_ok) (fun v1 _ h=> ?_);refine z.h.g ?_;apply za [] hB h
theorem JD {s:Str}{r:Int×Int}(h:ZC s=some r):XSpec Tryz.prog 246 [S s] [] (.tup [.pl (.int .i32 r.1),I r.2]) [] []:=by
 unfold ZC at h;refine zc Tryz.hU Tryz.func246 (fun _ _ _ hB=> ?_);refine z.q.J.a3.w.a7.g ?_;refine zn h (fun _ h=> ?_) (fun _ h=> ?_)
 ·refine z.U.g ?_;apply za [] hB h
 refine z.t.g ?_;refine QI h (fun v1 _ h=> ?_);refine z.w.g ?_;refine l_atg (ev:=(fun x:UInt8=>[Value.int .u8 (x.toNat:Int)])) 0 h (fun v2 _ h=> ?_);refine z.q.J.h7.g ?_;refine zn h (fun _ h=> ?_) (fun _ h=> ?_)
 ·refine z.h9.b.g ?_;refine l_shlC (r:=(w32 (v2.toNat:Int))*2^31) ?_;refine QV (r:=((w32 ((w32 (v2.toNat:Int))*2^31)).fdiv (2^31))) ?_;refine z.w.g ?_;refine QI h (fun v3 _ h=> ?_);refine z.h3.i6.i6.a.i6.a.h9.g ?_;apply za [] hB h
 refine z.w.h1.t.g ?_;refine l_shrU v2 4 ?_;refine l_atg (ev:=(fun x:JT=>[Value.int .u8 (x.lo.toNat:Int),Value.int .u8 (x.hi.toNat:Int)])) 1 h (fun v4 _ h=> ?_);refine z.i0.e7.d1.a6.g ?_;refine zn h (fun _ h=> ?_) (fun _ h=> ?_)
 ·refine z.U.g ?_;apply za [] hB h
 refine z.t.g ?_;refine QI h (fun v5 _ h=> ?_);refine z.f3.g ?_;refine qQ (fun q6=>(.normal,⟨[(0,S s),(5,U v1),(8,I (w64 ((u8 (band 8 (v2.toNat:Int) 7)).toNat:Int))),(10,U v5),(57,B q6)],[],[]⟩)) h (fun t h=> ?_) (fun q6 h=> ?_)
 ·refine z.F.G.m.g ?_;refine zd h (fun _ h=> ?_) (fun _ h=> ?_)
  ·refine z.P.j.g ?_;exact zq [] hB h
  refine z.c8.r.p8.a5.g ?_;exact zq [] hB h
 refine f_t ?_;refine zn h (fun _ h=> ?_) (fun _ h=> ?_)
 ·refine z.U.g ?_;apply za [] hB h
 refine z.q.b.e3.g ?_;refine zn h (fun _ h=> ?_) (fun _ h=> ?_)
 ·refine z.h1.b.g ?_;refine l_shlC (r:=(w32 ((u8 (band 8 (v1.toNat:Int) 31)).toNat:Int))*2^6) ?_;refine z.h3.i6.h1.a.g ?_;apply za [] hB h
 refine z.t.g ?_;refine QI h (fun v7 _ h=> ?_);refine z.f3.g ?_;refine qQ (fun q8=>(.normal,⟨[(0,S s),(5,U v1),(8,I (w64 ((u8 (band 8 (v2.toNat:Int) 7)).toNat:Int))),(10,U v5),(11,U v7),(75,B q8)],[],[]⟩)) h (fun t h=> ?_) (fun q8 h=> ?_)
 ·refine z.l8.g ?_;refine zd h (fun _ h=> ?_) (fun _ h=> ?_)
  ·refine z.P.n.g ?_;exact zq [] hB h
  refine z.c8.r.g ?_;exact zq [] hB h
 refine f_t ?_;refine zn h (fun _ h=> ?_) (fun _ h=> ?_)
 ·refine z.U.g ?_;apply za [] hB h
 refine z.q.b.e3.g ?_;refine zn h (fun _ h=> ?_) (fun _ h=> ?_)
 ·refine z.h1.b.g ?_;refine l_shlC (r:=(w32 ((u8 (band 8 (v1.toNat:Int) 15)).toNat:Int))*2^12) ?_;refine z.h1.a.g ?_;refine l_shlC (r:=(w32 ((u8 (band 8 (v5.toNat:Int) 63)).toNat:Int))*2^6) ?_;refine z.h3.i6.h1.a.i6.g ?_;apply za [] hB h
 refine z.t.g ?_;refine QI h (fun v9 _ h=> ?_);refine z.f3.g ?_;refine qQ (fun q10=>(.normal,⟨[(5,U v1),(10,U v5),(11,U v7),(12,U v9),(98,B q10)],[],[]⟩)) h (fun t h=> ?_) (fun q10 h=> ?_)
 ·refine z.l8.g ?_;refine zd h (fun _ h=> ?_) (fun _ h=> ?_)
  ·refine z.P.n.g ?_;exact zq [] hB h
  refine z.c8.r.g ?_;exact zq [] hB h
 refine f_t ?_;refine zn h (fun _ h=> ?_) (fun _ h=> ?_)
 ·refine z.U.g ?_;apply za [] hB h
 refine z.h1.t.g ?_;refine l_shlC (r:=(w32 ((u8 (band 8 (v1.toNat:Int) 7)).toNat:Int))*2^18) ?_;refine z.h1.a.g ?_;refine l_shlC (r:=(w32 ((u8 (band 8 (v5.toNat:Int) 63)).toNat:Int))*2^12) ?_;refine z.h1.a.i6.g ?_;refine l_shlC (r:=(w32 ((u8 (band 8 (v7.toNat:Int) 63)).toNat:Int))*2^6) ?_;refine z.N.i6.h1.a.i6.g ?_;apply za [] hB h
theorem zav {s:Str}{r:Int×Int}(h:Z9 s=some r):XSpec Tryz.prog 210 [S s] [] (.tup [.pl (.int .i32 r.1),I r.2]) [] []:=by
 unfold Z9 at h;refine zc Tryz.hU Tryz.func210 (fun _ _ _ hB=> ?_);refine z.a.j5.J.a7.g ?_;refine zd h (fun _ h=> ?_) (fun _ h=> ?_)
 ·refine z.f.g ?_;refine QI h (fun v1 _ h=> ?_);refine z.i7.c7.g ?_;refine zn h (fun _ h=> ?_) (fun _ h=> ?_)
  ·refine z.b.g ?_;refine QI h (fun v2 _ h=> ?_);refine z.h3.h9.g ?_;apply za [] hB h
  refine z.m.g ?_;refine zo h (fun _=>JD) (fun v3 _ h=> ?_);refine z.N.k8.g ?_;apply za [] hB h
 refine z.m.i1.k.g ?_;refine zo h (fun _=>JD) (fun v4 _ h=> ?_);refine z.N.k8.g ?_;apply za [] hB h
theorem strings_Builder_copyCheck_s1_ok {u1:Bool}{r:Unit}(h:Zp u1=some r):XSpec Tryz.prog 139 [.ptr 2000101 0] [(2000101,.box 102 [.nptr u1 2000101 0,.pl (.slice none 0 0)])] (.tup []) [(2000101,.box 102 [.nptr false 2000101 0,.pl (.slice none 0 0)])] []:=by
 unfold Zp at h;refine zc Tryz.hU Tryz.func139 (fun _ _ _ hB=> ?_);refine z.b2.b.g ?_
 cases u1 with
 |true=>
  replace h:=bif_t h
  refine z.p5.y.e8.e.o8.g ?_;refine l_nat (noEscape_spec Tryz.func193 (.ptr 2000101 0:AV)) ?_;refine l_fromunsafe (P:=Tryz.prog) ?_;refine z.d5.k9.c0.g ?_;apply za [(2000101,2000101)] hB h
 |false=>
  replace h:=bif_f h
  refine z.Q.i4.e.q4.j6.b.i4.e.o8.g ?_;apply za [(2000101,2000101)] hB h
theorem strings_Builder_grow_s1_ok {u1:Int}{u2:Bool}{r:Unit}(h:Qd u1 u2=some r):XSpec Tryz.prog 244 [.ptr 3000101 0,I u1] [(3000101,.box 102 [.nptr u2 3000101 0,.pl (.slice none 0 0)])] (.tup []) [(3000101,.box 102 [.nptr u2 3000101 0,.sl 3000151 0 0]),(3000151,.row 5 1 0 (F cU []))] []:=by
 unfold Qd at h;refine zc Tryz.hU Tryz.func244 (fun _ _ _ hB=> ?_);refine zaE ?_;refine qX [] (.q 0 (.q 1 (.q 2 (.q 3 (.q 4 (.q 5 (.q 6 (.q 7 (.q 9 (.q 10 (.q 11 (.q 12 (.q 13 (.e 8 (.q 14 (.q 15 .done)))))))))))))))) hm ?_;refine z.v.r5.d.i2.n0.A.s6.d.r4.d.i2.g ?_;refine n_mnz Tryz.func260 h (fun v1 _ h=> ?_);refine gq ?_;refine n_subp h (fun h=> ?_);refine z.d5.k9.c0.y.e.s7.b2.i.f2.k5.g ?_;apply za [(3000101,3000101),(1013,3000151)] hB h
theorem zap {u1:Int}{u2:Bool}{r:Unit}(h:qN u1 u2=some r):XSpec Tryz.prog 208 [.ptr 1000101 0,I u1] [(1000101,.box 102 [.nptr u2 1000101 0,.pl (.slice none 0 0)])] (.tup []) [(1000101,.box 102 [.nptr false 1000101 0,.sl 1000151 0 0]),(1000151,.row 5 1 0 (F cU []))] []:=by
 unfold qN at h;refine zc Tryz.hU Tryz.func208 (fun _ _ _ hB=> ?_);refine z.b.g ?_;refine zg [(2000101,1000101)] [1000101] h (fun _=>strings_Builder_copyCheck_s1_ok) (fun v1 _ h=> ?_);refine z.q.V.e.g ?_;refine zn h (fun _ h=> ?_) (fun _ h=> ?_)
 ·refine k_reg ?_
  cases h
 refine z.e3.g ?_;refine qX [] (.q 0 (.q 1 (.q 2 (.q 3 (.q 4 (.q 5 (.q 6 (.q 7 (.q 8 (.q 9 (.q 10 (.q 11 (.q 12 .done))))))))))))) hm ?_;refine z.f2.b3.A.n1.d.r5.d.i2.r4.d.i2.g ?_;refine zn h (fun _ h=> ?_) (fun _ h=> ?_)
 ·refine z.y.g ?_;refine zg [(3000101,1000101),(3000151,102451)] [1000101] h (fun _=>strings_Builder_grow_s1_ok) (fun v2 _ h=> ?_);refine k_nil ?_;apply za [(1000101,1000101),(102451,1000151)] hB h
 refine k_skip ?_;refine f_nilcell (te:=5) (b1:=1000101) (j:=1) 10004011 1 ?_;apply za [(1000101,1000101),(10004011,1000151)] hB h
theorem strings_Builder_copyCheck_s2_ok {u1:Bool}{u2:Str}{r:Unit}(h:Zr u1 u2=some r):XSpec Tryz.prog 139 [.ptr 5000101 0] [(5000101,.box 102 [.nptr u1 5000101 0,.sl 5000102 0 u2.length]),(5000102,.row 5 1 0 (F cU u2))] (.tup []) [(5000101,.box 102 [.nptr false 5000101 0,.sl 5000102 0 u2.length]),(5000102,.row 5 1 0 (F cU u2))] []:=by
 unfold Zr at h;refine zc Tryz.hU Tryz.func139 (fun _ _ _ hB=> ?_);refine z.b2.b.g ?_
 cases u1 with
 |true=>
  replace h:=bif_t h
  refine z.p5.y.e8.e.o8.g ?_;refine l_nat (noEscape_spec Tryz.func193 (.ptr 5000101 0:AV)) ?_;refine l_fromunsafe (P:=Tryz.prog) ?_;refine z.d5.k9.c0.g ?_;apply za [(5000101,5000101),(5000102,5000102)] hB h
 |false=>
  replace h:=bif_f h
  refine z.Q.i4.e.q4.j6.b.i4.e.o8.g ?_;apply za [(5000101,5000101),(5000102,5000102)] hB h
theorem zj {u1:Str}{u2:Bool}{u3:Str}{r:Int×Str}(h:ze u1 u2 u3=some r):XSpec Tryz.prog 78 [.ptr 4000101 0,S u1] [(4000101,.box 102 [.nptr u2 4000101 0,.sl 4000102 0 u3.length]),(4000102,.row 5 1 0 (F cU u3))] (.tup [I r.1,.pl .nilIface]) [(4000101,.box 102 [.nptr false 4000101 0,.sl 4000102 0 r.2.length]),(4000102,.row 5 1 0 (F cU r.2))] [4000102]:=by
 unfold ze at h;refine zc Tryz.hU Tryz.func78 (fun _ _ _ hB=> ?_);refine z.w.a7.g ?_;refine zg [(5000101,4000101),(5000102,4000102)] [4000101,4000102] h (fun _=>strings_Builder_copyCheck_s2_ok) (fun v1 _ h=> ?_);refine z.j6.i.e.g ?_;refine l_apps h (fun v2 _ h=> ?_);refine z.N.a3.b.m0.g ?_;apply za [(4000101,4000101),(4000102,4000102)] hB h
theorem zO {u1:Bool}{u2:Str}{r:Str}(h:zA u1 u2=some r):XSpec Tryz.prog 79 [.ptr 6000101 0] [(6000101,.box 102 [.nptr u1 6000101 0,.sl 6000102 0 u2.length]),(6000102,.row 5 1 0 (F cU u2))] (S r) [(6000101,.box 102 [.nptr u1 6000101 0,.junk])] [6000102]:=by
 unfold zA at h;refine zc Tryz.hU Tryz.func79 (fun _ _ _ hB=> ?_);refine z.k4.g ?_;refine qX [10] (.q 0 (.q 1 (.q 2 (.q 3 (.q 5 (.q 6 (.q 7 (.q 8 (.q 9 (.e 4 (.e 10 (.q 11 .done)))))))))))) hm ?_;refine z.v.r6.v.n2.d.i2.i2.g ?_;refine n_ustr h (fun v1 _ h=> ?_);refine z.h6.f2.k5.g ?_;apply za [(6000101,6000101)] hB h
theorem strings_Replace_ok {s:Str}{old:Str}{new:Str}{n:Int}{r:Str}(h:J8 s old new n=some r):XSpec Tryz.prog 157 [S s,S old,S new,I n] [] (S r) [] []:=by
 unfold J8 at h;refine zc Tryz.hU Tryz.func157 (fun _ _ _ hB=> ?_);refine z.f3.c.g ?_;refine qQ (fun q1=>(.normal,⟨[(0,S s),(1,S old),(2,S new),(3,I n),(22,B q1)],[],[]⟩)) h (fun t h=> ?_) (fun q1 h=> ?_)
 ·refine z.a.b4.y.g ?_;refine zd h (fun _ h=> ?_) (fun _ h=> ?_)
  ·refine z.P.n.g ?_;exact zq [] hB h
  refine z.c8.r.g ?_;exact zq [] hB h
 refine f_t ?_;refine zn h (fun _ h=> ?_) (fun _ h=> ?_)
 ·refine z.h4.h.b.g ?_;apply za [] hB h
 refine z.i.e3.g ?_;refine zo h (fun _=>strings_Count_ok) (fun v2 _ h=> ?_);refine z.q.w.g ?_;refine zn h (fun _ h=> ?_) (fun _ h=> ?_)
 ·refine z.h4.h.b.g ?_;apply za [] hB h
 refine zaE ?_;refine qQ (fun q3=>(.normal,⟨[(0,S s),(1,S old),(2,S new),(3,I n),(9,I v2),(36,B q3)],[],[]⟩)) h (fun t h=> ?_) (fun q3 h=> ?_)
 ·refine z.l8.g ?_;refine zd h (fun _ h=> ?_) (fun _ h=> ?_)
  ·refine z.P.k.g ?_;exact zq [] hB h
  refine z.c8.r.x.g ?_;exact zq [] hB h
 refine f_t ?_;refine zn h (fun _ h=> ?_) (fun _ h=> ?_)
 ·refine z.c9.n4.R.a3.a.a3.m3.a3.c1.d1.c.o.m.g ?_;refine l_npcell (b:=1010) (j:=0) 1010 0 ?_;refine zg [(1000101,1010),(1000151,104851)] [1010] h (fun _=>zap) (fun v4 _ h=> ?_);refine z.q.a3.d6.e.g ?_;refine zn h (fun _ h=> ?_) (fun _ h=> ?_)
  ·refine z.m4.i.g ?_;refine zF (fun y5=>⟨[(0,S s),(1,S old),(2,S new),(10,.ptr 1010 0),(11,I y5.1),(52,I v2),(53,I y5.2.1)],[(1010,.box 102 [.nptr false 1010 0,.sl 104851 0 y5.2.2.length]),(104851,.row 5 1 0 (F cU y5.2.2))],[]⟩) (fun q11=>(.exit 0,⟨[(0,S s),(10,.ptr 1010 0),(11,I q11.1)],[(1010,.box 102 [.nptr false 1010 0,.sl 104851 0 q11.2.length]),(104851,.row 5 1 0 (F cU q11.2))],[]⟩)) [(1010,1010),(104851,104851)] hB h (fun y5 t h=> ?_) (fun q11 h=> ?_)
   ·unfold ZT at h;refine z.a8.g ?_;refine zn h (fun _ h=> ?_) (fun _ h=> ?_)
    ·refine z.a.i.W.g ?_;refine ZF h (fun v6 _ h=> ?_);refine l_move ?_;refine zo h (fun _=>strings_Index_ok) (fun v7 _ h=> ?_);refine z.a.O.c9.g ?_;refine ZF h (fun v8 _ h=> ?_);refine zg [(4000101,1010),(4000102,104851)] [1010,104851] h (fun _=>zj) (fun v9 _ h=> ?_);refine z.c1.g ?_;refine zg [(4000101,1010),(4000102,104851)] [1010,104851] h (fun _=>zj) (fun v10 _ h=> ?_);refine z.e4.l9.a3.y.e.g ?_;exact zu [(1010,1010),(104851,104851)] hB h
    refine z.l.g ?_;exact zr [(1010,1010),(104851,104851)] hB h
   refine z.i.c2.g ?_;refine ZF h (fun v12 _ h=> ?_);refine zg [(4000101,1010),(4000102,104851)] [1010,104851] h (fun _=>zj) (fun v13 _ h=> ?_);refine z.c.e.g ?_;refine zg [(6000101,1010),(6000102,104851)] [1010,104851] h (fun _=>zO) (fun v14 _ h=> ?_);refine z.h.g ?_;apply za [] hB h
  refine z.b.g ?_;refine zg [(4000101,1010),(4000102,104851)] [1010,104851] h (fun _=>zj) (fun v15 _ h=> ?_);refine z.p9.R.c1.g ?_;refine zF (fun y16=>⟨[(0,S s),(2,S new),(10,.ptr 1010 0),(11,I y16.1),(77,I (w64 (v2-1))),(78,I y16.2.1)],[(1010,.box 102 [.nptr false 1010 0,.sl 104851 0 y16.2.2.length]),(104851,.row 5 1 0 (F cU y16.2.2))],[104851]⟩) (fun q22=>(.exit 2,⟨[(0,S s),(10,.ptr 1010 0),(11,I q22.1)],[(1010,.box 102 [.nptr false 1010 0,.sl 104851 0 q22.2.length]),(104851,.row 5 1 0 (F cU q22.2))],[104851]⟩)) [(1010,1010),(104851,104851)] hB h (fun y16 t h=> ?_) (fun q22 h=> ?_)
  ·unfold strings_Replace_b2 at h;refine z.a8.g ?_;refine zn h (fun _ h=> ?_) (fun _ h=> ?_)
   ·refine z.i.W.g ?_;refine ZF h (fun v17 _ h=> ?_);refine zo h (fun _=>zav) (fun v18 _ h=> ?_);refine z.a.O.c9.O.b7.g ?_;refine ZF h (fun v19 _ h=> ?_);refine zg [(4000101,1010),(4000102,104851)] [1010,104851] h (fun _=>zj) (fun v20 _ h=> ?_);refine z.c1.g ?_;refine zg [(4000101,1010),(4000102,104851)] [1010,104851] h (fun _=>zj) (fun v21 _ h=> ?_);refine z.e4.s.m.e.g ?_;exact zu [(1010,1010),(104851,104851)] hB h
   refine z.l.g ?_;exact zr [(1010,1010),(104851,104851)] hB h
  refine z.i.c2.g ?_;refine ZF h (fun v23 _ h=> ?_);refine zg [(4000101,1010),(4000102,104851)] [1010,104851] h (fun _=>zj) (fun v24 _ h=> ?_);refine z.c.e.g ?_;refine zg [(6000101,1010),(6000102,104851)] [1010,104851] h (fun _=>zO) (fun v25 _ h=> ?_);refine z.h.g ?_;apply za [] hB h
 refine z.c9.n4.R.a3.a.a3.m3.a3.c1.d1.c.M.g ?_;refine l_npcell (b:=1010) (j:=0) 1010 0 ?_;refine zg [(1000101,1010),(1000151,104851)] [1010] h (fun _=>zap) (fun v26 _ h=> ?_);refine z.q.a3.d6.e.g ?_;refine zn h (fun _ h=> ?_) (fun _ h=> ?_)
 ·refine z.m4.i.g ?_;refine zF (fun y27=>⟨[(0,S s),(1,S old),(2,S new),(10,.ptr 1010 0),(11,I y27.1),(52,I n),(53,I y27.2.1)],[(1010,.box 102 [.nptr false 1010 0,.sl 104851 0 y27.2.2.length]),(104851,.row 5 1 0 (F cU y27.2.2))],[]⟩) (fun q33=>(.exit 0,⟨[(0,S s),(10,.ptr 1010 0),(11,I q33.1)],[(1010,.box 102 [.nptr false 1010 0,.sl 104851 0 q33.2.length]),(104851,.row 5 1 0 (F cU q33.2))],[]⟩)) [(1010,1010),(104851,104851)] hB h (fun y27 t h=> ?_) (fun q33 h=> ?_)
  ·unfold strings_Replace_b3 at h;refine z.a8.g ?_;refine zn h (fun _ h=> ?_) (fun _ h=> ?_)
   ·refine z.a.i.W.g ?_;refine ZF h (fun v28 _ h=> ?_);refine l_move ?_;refine zo h (fun _=>strings_Index_ok) (fun v29 _ h=> ?_);refine z.a.O.c9.g ?_;refine ZF h (fun v30 _ h=> ?_);refine zg [(4000101,1010),(4000102,104851)] [1010,104851] h (fun _=>zj) (fun v31 _ h=> ?_);refine z.c1.g ?_;refine zg [(4000101,1010),(4000102,104851)] [1010,104851] h (fun _=>zj) (fun v32 _ h=> ?_);refine z.e4.l9.a3.y.e.g ?_;exact zu [(1010,1010),(104851,104851)] hB h
   refine z.l.g ?_;exact zr [(1010,1010),(104851,104851)] hB h
  refine z.i.c2.g ?_;refine ZF h (fun v34 _ h=> ?_);refine zg [(4000101,1010),(4000102,104851)] [1010,104851] h (fun _=>zj) (fun v35 _ h=> ?_);refine z.c.e.g ?_;refine zg [(6000101,1010),(6000102,104851)] [1010,104851] h (fun _=>zO) (fun v36 _ h=> ?_);refine z.h.g ?_;apply za [] hB h
 refine z.b.g ?_;refine zg [(4000101,1010),(4000102,104851)] [1010,104851] h (fun _=>zj) (fun v37 _ h=> ?_);refine z.p9.R.c1.g ?_;refine zF (fun y38=>⟨[(0,S s),(2,S new),(10,.ptr 1010 0),(11,I y38.1),(77,I (w64 (n-1))),(78,I y38.2.1)],[(1010,.box 102 [.nptr false 1010 0,.sl 104851 0 y38.2.2.length]),(104851,.row 5 1 0 (F cU y38.2.2))],[104851]⟩) (fun q44=>(.exit 2,⟨[(0,S s),(10,.ptr 1010 0),(11,I q44.1)],[(1010,.box 102 [.nptr false 1010 0,.sl 104851 0 q44.2.length]),(104851,.row 5 1 0 (F cU q44.2))],[104851]⟩)) [(1010,1010),(104851,104851)] hB h (fun y38 t h=> ?_) (fun q44 h=> ?_)
 ·unfold strings_Replace_b4 at h;refine z.a8.g ?_;refine zn h (fun _ h=> ?_) (fun _ h=> ?_)
  ·refine z.i.W.g ?_;refine ZF h (fun v39 _ h=> ?_);refine zo h (fun _=>zav) (fun v40 _ h=> ?_);refine z.a.O.c9.O.b7.g ?_;refine ZF h (fun v41 _ h=> ?_);refine zg [(4000101,1010),(4000102,104851)] [1010,104851] h (fun _=>zj) (fun v42 _ h=> ?_);refine z.c1.g ?_;refine zg [(4000101,1010),(4000102,104851)] [1010,104851] h (fun _=>zj) (fun v43 _ h=> ?_);refine z.e4.s.m.e.g ?_;exact zu [(1010,1010),(104851,104851)] hB h
  refine z.l.g ?_;exact zr [(1010,1010),(104851,104851)] hB h
 refine z.i.c2.g ?_;refine ZF h (fun v45 _ h=> ?_);refine zg [(4000101,1010),(4000102,104851)] [1010,104851] h (fun _=>zj) (fun v46 _ h=> ?_);refine z.c.e.g ?_;refine zg [(6000101,1010),(6000102,104851)] [1010,104851] h (fun _=>zO) (fun v47 _ h=> ?_);refine z.h.g ?_;apply za [] hB h
theorem strings_ReplaceAll_ok {s:Str}{old:Str}{new:Str}{r:Str}(h:QK s old new=some r):XSpec Tryz.prog 98 [S s,S old,S new] [] (S r) [] []:=by
 unfold QK at h;refine zc Tryz.hU Tryz.func98 (fun _ _ _ hB=> ?_);refine z.a.k6.g ?_;refine zo h (fun _=>strings_Replace_ok) (fun v1 _ h=> ?_);refine z.h.g ?_;apply za [] hB h
theorem chars_Lines_ok {s:Str}{r:Str}(h:chars_Lines s=some r):XSpec Tryz.prog 59 [S s] [] (S r) [] []:=by
 unfold chars_Lines at h;refine zc Tryz.hU Tryz.func59 (fun _ _ _ hB=> ?_);refine z.a1.g ?_;refine zo h (fun _=>strings_ReplaceAll_ok) (fun v1 _ h=> ?_);refine zo h (fun _=>strings_ReplaceAll_ok) (fun v2 _ h=> ?_);refine z.h.g ?_;apply za [] hB h
theorem zaH {c:UInt8}{r:Bool}(h:QE c=some r):XSpec Tryz.prog 99 [U c] [] (B r) [] []:=by
 unfold QE at h;refine zc Tryz.hU Tryz.func99 (fun _ _ _ hB=> ?_);refine z.F.a1.g ?_;refine zd h (fun _ h=> ?_) (fun _ h=> ?_)
 ·refine z.c3.n.a2.n.a2.n.g ?_;apply za [] hB h
 refine z.p.r.g ?_;refine zd h (fun _ h=> ?_) (fun _ h=> ?_)
 ·refine z.c3.n.a2.n.g ?_;apply za [] hB h
 refine z.p.r.g ?_;refine zd h (fun _ h=> ?_) (fun _ h=> ?_)
 ·refine z.c3.n.g ?_;apply za [] hB h
 refine z.b9.r.g ?_;apply za [] hB h
theorem zaG {s:Str}{prefix_:Str}{r:Bool}(h:Zg s prefix_=some r):XSpec Tryz.prog 158 [S s,S prefix_] [] (B r) [] []:=by
 unfold Zg at h;refine zc Tryz.hU Tryz.func158 (fun _ _ _ hB=> ?_);refine z.F.a3.a.a3.a1.g ?_;refine zd h (fun _ h=> ?_) (fun _ h=> ?_)
 ·refine z.a5.a3.f.x.g ?_;refine ZF h (fun v1 _ h=> ?_);refine z.c3.b4.f.g ?_;apply za [] hB h
 refine z.b9.n.j.g ?_;apply za [] hB h
theorem strings_HasPrefix_ok {s:Str}{prefix_:Str}{r:Bool}(h:Qb s prefix_=some r):XSpec Tryz.prog 101 [S s,S prefix_] [] (B r) [] []:=by
 unfold Qb at h;refine zc Tryz.hU Tryz.func101 (fun _ _ _ hB=> ?_);refine z.k6.g ?_;refine zo h (fun _=>zaG) (fun v1 _ h=> ?_);refine z.h.g ?_;apply za [] hB h
theorem stringslite_CutPrefix_ok {s:Str}{prefix_:Str}{r:Str×Bool}(h:QR s prefix_=some r):XSpec Tryz.prog 197 [S s,S prefix_] [] (.tup [S r.1,B r.2]) [] []:=by
 unfold QR at h;refine zc Tryz.hU Tryz.func197 (fun _ _ _ hB=> ?_);refine z.i.b1.a7.g ?_;refine zo h (fun _=>zaG) (fun v1 _ h=> ?_);refine z.d4.g ?_;refine zn h (fun _ h=> ?_) (fun _ h=> ?_)
 ·refine z.h3.b.g ?_;apply za [] hB h
 refine z.a3.h5.g ?_;refine ZF h (fun v2 _ h=> ?_);refine z.N.g ?_;apply za [] hB h
theorem zak {s:Str}{prefix_:Str}{r:Str×Bool}(h:ZL s prefix_=some r):XSpec Tryz.prog 144 [S s,S prefix_] [] (.tup [S r.1,B r.2]) [] []:=by
 unfold ZL at h;refine zc Tryz.hU Tryz.func144 (fun _ _ _ hB=> ?_);refine z.O.a7.g ?_;refine zo h (fun _=>stringslite_CutPrefix_ok) (fun v1 _ h=> ?_);refine z.N.o0.g ?_;apply za [] hB h
theorem ZN {s:Str}{substr:Str}{r:Bool}(h:qq s substr=some r):XSpec Tryz.prog 211 [S s,S substr] [] (B r) [] []:=by
 unfold qq at h;refine zc Tryz.hU Tryz.func211 (fun _ _ _ hB=> ?_);refine z.k6.g ?_;refine zo h (fun _=>strings_Index_ok) (fun v1 _ h=> ?_);refine z.h.d7.g ?_;apply za [] hB h
theorem stringslite_Cut_ok {s:Str}{sep:Str}{r:Str×Str×Bool}(h:zaL s sep=some r):XSpec Tryz.prog 212 [S s,S sep] [] (.tup [S r.1,S r.2.1,B r.2.2]) [] []:=by
 unfold zaL at h;refine zc Tryz.hU Tryz.func212 (fun _ _ _ hB=> ?_);refine z.i.b1.D.a7.g ?_;refine zo h (fun _=>stringslite_Index_ok) (fun v1 _ h=> ?_);refine z.q.w.g ?_;refine zn h (fun _ h=> ?_) (fun _ h=> ?_)
 ·refine zaE ?_;refine qX [] (.q 0 (.q 1 (.q 2 (.q 3 (.q 4 (.q 5 (.q 6 (.q 7 (.q 8 (.q 9 (.q 10 (.q 11 .done)))))))))))) hm ?_;refine z.e5.g ?_;refine n_subs h (fun v2 _ h=> ?_);refine z.d.n0.d.s8.e5.e9.g ?_;refine n_subs h (fun v3 _ h=> ?_);refine z.h4.h6.f2.k5.k5.k5.g ?_;apply za [] hB h
 refine z.N.D.t.g ?_;apply za [] hB h
theorem Zk {s:Str}{sep:Str}{r:Str×Str×Bool}(h:qi s sep=some r):XSpec Tryz.prog 161 [S s,S sep] [] (.tup [S r.1,S r.2.1,B r.2.2]) [] []:=by
 unfold qi at h;refine zc Tryz.hU Tryz.func161 (fun _ _ _ hB=> ?_);refine z.O.D.a7.g ?_;refine zo h (fun _=>stringslite_Cut_ok) (fun v1 _ h=> ?_);refine z.N.D.l0.o0.g ?_;apply za [] hB h
theorem parse_fold_ok {s:Str}{r:Str}(h:parse_fold s=some r):XSpec Tryz.prog 160 [S s] [] (S r) [] []:=by
 unfold parse_fold at h;refine zc Tryz.hU Tryz.func160 (fun _ _ _ hB=> ?_);refine z.d3.J.o9.a1.g ?_;refine zF (fun y1=>⟨[(3,.sl 1007 0 y1.2.length),(8,.sl 1007 0 y1.2.length),(9,I (s.length:Int)),(10,I y1.1)],[(1007,.row 5 1 0 (F cU y1.2))],[]⟩) (fun q5=>(.exit 0,⟨[(3,.sl 1007 0 q5.length)],[(1007,.row 5 1 0 (F cU q5))],[]⟩)) [(1007,1007)] hB h (fun y1 t h=> ?_) (fun q5 h=> ?_)
 ·unfold Jg at h;refine z.a8.g ?_;refine zn h (fun _ h=> ?_) (fun _ h=> ?_)
  ·refine z.j7.g ?_;refine QT h (fun v2 ev2 h=> ?_);refine Q7 ev2 ?_;refine z.F.w.D.g ?_;refine zd h (fun _ h=> ?_) (fun _ h=> ?_)
   ·refine z.i7.r.g ?_;refine zn h (fun _ h=> ?_) (fun _ h=> ?_)
    ·refine z.a.y.g ?_;refine l_addU v2 97 ?_;refine l_subU (v2+97) 65 ?_;refine QT h (fun v3 ev3 h=> ?_);refine l_put0 ev3 h (fun v4 ev4 h=> ?_);refine z.e4.d5.g ?_;refine qj 3 v4.length ?_;refine qj 8 v4.length ?_;exact zu [(1007,1007)] hB h
    refine z.d8.g ?_;exact zu [(1007,1007)] hB h
   refine z.d8.i1.n.g ?_;exact zu [(1007,1007)] hB h
  refine z.l.g ?_;exact zr [(1007,1007)] hB h
 refine z.h.q0.k7.g ?_;apply za [] hB h
theorem name_in_ok {r_:Int}{l:(List qe)}{r:Bool}(h:name_in r_ l=some r):XSpec Tryz.prog 236 [.pl (.int .i32 r_),.vs l.length (F c_TSpan l)] [] (B r) [] []:=by
 unfold name_in at h;refine zc Tryz.hU Tryz.func236 (fun _ _ _ hB=> ?_);refine z.d3.d6.g ?_;refine zF (fun y1=>⟨[(0,.pl (.int .i32 r_)),(7,.vs l.length (F c_TSpan l)),(8,I (l.length:Int)),(9,I y1)],[],[]⟩) (Sum.elim (fun q3=>(.ret,⟨[(4,B true)],[],[]⟩)) (fun q4=>(.exit 0,⟨[],[],[]⟩))) [] hB h (fun y1 t h=> ?_) (fun q h=> ?_)
 ·unfold zao at h;refine z.a8.g ?_;refine zn h (fun _ h=> ?_) (fun _ h=> ?_)
  ·refine z.c.W.g ?_;refine Qh h (fun v2 _ h=> ?_);refine z.F.G.b.e7.d1.a6.g ?_;refine zd h (fun _ h=> ?_) (fun _ h=> ?_)
   ·refine z.i7.d7.o5.f.g ?_;refine zn h (fun _ h=> ?_) (fun _ h=> ?_)
    ·refine z.j8.g ?_;exact zr [] hB h
    refine z.d8.g ?_;exact zu [] hB h
   refine z.d8.i1.j.g ?_;exact zu [] hB h
  refine z.l.g ?_;exact zr [] hB h
 rcases q with q3|q4
 ·dsimp only [Sum.elim] at h ⊢
  refine z.B.g ?_;apply za [] hB h
 dsimp only [Sum.elim] at h ⊢
 refine z.l7.g ?_;apply za [] hB h
theorem name_Begins_ok {r_:Int}{r:Bool}(h:za5 r_=some r):XSpec Tryz.prog 195 [.pl (.int .i32 r_)] [] (B r) [] []:=by
 unfold za5 at h;refine zc Tryz.hU Tryz.func195 (fun _ _ _ hB=> ?_);refine z.F.a1.g ?_;refine zd h (fun _ h=> ?_) (fun _ h=> ?_)
 ·refine z.c3.b5.j.j.j.j.g ?_;apply za [] hB h
 refine z.j9.j9.j9.j9.j9.j9.j9.j9.j9.j9.j9.j9.j9.j9.f.g ?_;refine Z6 (e:=c_TSpan) [(qe.mk 65 90),(qe.mk 97 122),(qe.mk 192 214),(qe.mk 216 246),(qe.mk 248 767),(qe.mk 880 893),(qe.mk 895 8191),(qe.mk 8204 8205),(qe.mk 8304 8591),(qe.mk 11264 12271),(qe.mk 12289 55295),(qe.mk 63744 64975),(qe.mk 65008 65533),(qe.mk 65536 983039)] ?_;refine l_on ?_;refine l_callB h (fun _=>name_in_ok) (fun v1 _ h=> ?_);refine z.b9.g ?_;apply za [] hB h
theorem name_Stands_ok {r_:Int}{r:Bool}(h:zaY r_=some r):XSpec Tryz.prog 196 [.pl (.int .i32 r_)] [] (B r) [] []:=by
 unfold zaY at h;refine zc Tryz.hU Tryz.func196 (fun _ _ _ hB=> ?_);refine z.a1.g ?_;refine zo h (fun _=>name_Begins_ok) (fun v1 _ h=> ?_);refine l_move ?_;refine zd h (fun _ h=> ?_) (fun _ h=> ?_)
 ·refine z.c3.n.K.n.a2.n.a2.n.g ?_;apply za [] hB h
 refine z.p.r.g ?_;refine zd h (fun _ h=> ?_) (fun _ h=> ?_)
 ·refine z.c3.n.K.n.a2.n.g ?_;apply za [] hB h
 refine z.p.r.g ?_;refine zd h (fun _ h=> ?_) (fun _ h=> ?_)
 ·refine z.c3.n.K.n.g ?_;apply za [] hB h
 refine z.p.r.g ?_;refine zd h (fun _ h=> ?_) (fun _ h=> ?_)
 ·refine z.c3.n.j.g ?_;apply za [] hB h
 refine z.j9.j9.j9.f.g ?_;refine Z6 (e:=c_TSpan) [(qe.mk 48 57),(qe.mk 768 879),(qe.mk 8255 8256)] ?_;refine l_on ?_;refine l_callB h (fun _=>name_in_ok) (fun v2 _ h=> ?_);refine z.b9.g ?_;apply za [] hB h
theorem QM {s:Str}{r:Bool}(h:JU s=some r):XSpec Tryz.prog 143 [S s] [] (B r) [] []:=by
 unfold JU at h;refine zc Tryz.hU Tryz.func143 (fun _ _ _ hB=> ?_);refine z.o9.a1.g ?_;refine l_frz 1009 ?_;refine zg [(1,101001)] [] h (fun _=>utf_Chars_ok) (fun v1 _ h=> ?_);refine z.f8.J.b7.g ?_;refine zd h (fun _ h=> ?_) (fun _ h=> ?_)
 ·refine z.S.f9.b5.K.k.g ?_;apply za [] hB h
 refine z.p.c7.I.f.g ?_;refine zd h (fun _ h=> ?_) (fun _ h=> ?_)
 ·refine z.S.f9.b5.j.g ?_;apply za [] hB h
 refine z.f.g ?_;refine QT h (fun v2 ev2 h=> ?_);refine l_on ?_;refine Q7 ev2 ?_;refine l_on ?_;refine zo h (fun _=>name_Begins_ok) (fun v3 _ h=> ?_);refine z.c5.Z.g ?_;refine zn h (fun _ h=> ?_) (fun _ h=> ?_)
 ·refine z.S.g ?_;apply za [] hB h
 refine z.d3.b.e3.g ?_;refine zF (fun y4=>⟨[(27,.sl 101001 0 v1.1.length),(28,I (v1.1.length:Int)),(29,I y4)],[(101001,.row 21 1 0 (F cR v1.1))],[]⟩) (Sum.elim (fun q7=>(.ret,⟨[(2,B false)],[],[]⟩)) (fun q8=>(.exit 0,⟨[],[],[]⟩))) [(101001,101001)] hB h (fun y4 t h=> ?_) (fun q h=> ?_)
 ·unfold zal at h;refine z.a8.g ?_;refine zn h (fun _ h=> ?_) (fun _ h=> ?_)
  ·refine z.c.W.g ?_;refine QT h (fun v5 ev5 h=> ?_);refine Q7 ev5 ?_;refine z.w.g ?_;refine zo h (fun _=>name_Stands_ok) (fun v6 _ h=> ?_);refine z.d4.g ?_;refine zn h (fun _ h=> ?_) (fun _ h=> ?_)
   ·refine z.j8.g ?_;exact zr [] hB h
   refine z.d8.g ?_;exact zu [(101001,101001)] hB h
  refine z.l.g ?_;exact zr [] hB h
 rcases q with q7|q8
 ·dsimp only [Sum.elim] at h ⊢
  refine z.B.g ?_;apply za [] hB h
 dsimp only [Sum.elim] at h ⊢
 refine z.l7.g ?_;apply za [] hB h
theorem name_Split_ok {s:Str}{r:Str×Str×Bool}(h:name_Split s=some r):XSpec Tryz.prog 165 [S s] [] (.tup [S r.1,S r.2.1,B r.2.2]) [] []:=by
 unfold name_Split at h;refine zc Tryz.hU Tryz.func165 (fun _ _ _ hB=> ?_);refine z.w.D.a7.g ?_;refine zo h (fun _=>Zk) (fun v1 _ h=> ?_);refine z.d4.J.D.D.l0.k8.g ?_;refine zn h (fun _ h=> ?_) (fun _ h=> ?_)
 ·refine z.i.b1.D.m.g ?_;refine zd h (fun _ h=> ?_) (fun _ h=> ?_)
  ·refine z.f.g ?_;refine zo h (fun _=>QM) (fun v2 _ h=> ?_);refine z.a2.Z.g ?_;refine zd h (fun _ h=> ?_) (fun _ h=> ?_)
   ·refine z.h3.a7.f9.k.g ?_;apply za [] hB h
   refine z.f.g ?_;refine zo h (fun _=>QM) (fun v3 _ h=> ?_);refine z.c5.Z.g ?_;refine zn h (fun _ h=> ?_) (fun _ h=> ?_)
   ·refine z.h3.a7.g ?_;apply za [] hB h
   refine z.N.D.h5.g ?_;apply za [] hB h
  refine z.f.p.k.g ?_;refine zo h (fun _=>QM) (fun v4 _ h=> ?_);refine z.c5.Z.g ?_;refine zn h (fun _ h=> ?_) (fun _ h=> ?_)
  ·refine z.h3.a7.g ?_;apply za [] hB h
  refine z.N.D.h5.g ?_;apply za [] hB h
 refine z.i.e3.g ?_;refine zd h (fun _ h=> ?_) (fun _ h=> ?_)
 ·refine z.f.g ?_;refine zo h (fun _=>QM) (fun v5 _ h=> ?_);refine z.a2.Z.g ?_;refine zd h (fun _ h=> ?_) (fun _ h=> ?_)
  ·refine z.h3.a7.f9.k.g ?_;apply za [] hB h
  refine z.f.g ?_;refine zo h (fun _=>QM) (fun v6 _ h=> ?_);refine z.c5.Z.g ?_;refine zn h (fun _ h=> ?_) (fun _ h=> ?_)
  ·refine z.h3.a7.g ?_;apply za [] hB h
  refine z.N.D.h5.g ?_;apply za [] hB h
 refine z.f.p.k.g ?_;refine zo h (fun _=>QM) (fun v7 _ h=> ?_);refine z.c5.Z.g ?_;refine zn h (fun _ h=> ?_) (fun _ h=> ?_)
 ·refine z.h3.a7.g ?_;apply za [] hB h
 refine z.N.D.h5.g ?_;apply za [] hB h
theorem atomic_b32_ok {b:Bool}{r:Int}(h:atomic_b32 b=some r):XSpec Tryz.prog 289 [B b] [] (.pl (.int .u32 r)) [] []:=by
 unfold atomic_b32 at h;refine zc Tryz.hU Tryz.func289 (fun _ _ _ hB=> ?_);refine z.e.d6.g ?_;refine zn h (fun _ h=> ?_) (fun _ h=> ?_)
 ·refine z.S.g ?_;apply za [] hB h
 refine z.e1.M.g ?_;apply za [] hB h
theorem chars_named_ok {s:Str}{r:Str×Bool}(h:chars_named s=some r):XSpec Tryz.prog 266 [S s] [] (.tup [S r.1,B r.2]) [] []:=by
 unfold chars_named at h;refine zc Tryz.hU Tryz.func266 (fun _ _ _ hB=> ?_);refine z.o.b4.c.m4.J.a7.g ?_;refine zn h (fun _ h=> ?_) (fun _ h=> ?_)
 ·refine z.B.N.c.g ?_;apply za [] hB h
 refine z.o.b4.c.g ?_;refine zn h (fun _ h=> ?_) (fun _ h=> ?_)
 ·refine z.B.N.c.g ?_;apply za [] hB h
 refine z.o.b4.c.g ?_;refine zn h (fun _ h=> ?_) (fun _ h=> ?_)
 ·refine z.B.N.c.g ?_;apply za [] hB h
 refine z.o.b4.c.g ?_;refine zn h (fun _ h=> ?_) (fun _ h=> ?_)
 ·refine z.B.N.c.g ?_;apply za [] hB h
 refine z.o.b4.c.g ?_;refine zn h (fun _ h=> ?_) (fun _ h=> ?_)
 ·refine z.B.N.c.g ?_;apply za [] hB h
 refine z.N.c.f0.Q.g ?_;apply za [] hB h
end Go.Proofs.YtojbjdcflgeibaaGreatDoor
