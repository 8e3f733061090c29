/- WALKS, printed by aw.py: that the program's functions compute the plain ones. Conditions: none. -/
import Derived.Test.YtojbjdcflgeibaaGreatDoorProg
import Derived.Test.YtojbjdcflgeibaaGreatDoorAbsM2
import Derived.Test.YtojbjdcflgeibaaGreatDoorAbsM3
import Derived.Test.YtojbjdcflgeibaaGreatDoorQPure
import Derived.Test.YtojbjdcflgeibaaGreatDoorLQWalk
import Derived.Test.YtojbjdcflgeibaaGreatDoorIQWalk
set_option linter.unusedVariables false
set_option linter.unusedSimpArgs false
set_option maxRecDepth 20000
set_option maxHeartbeats 4000000
namespace Go.Proofs.YtojbjdcflgeibaaGreatDoor
open Go Go.Abs W G
instance :GTab:=⟨[(0,(utf8First.flatMap (fun x:UInt8=>[Value.int .u8 (x.toNat:Int)]))),(1,(utf8Ranges.flatMap (fun x:Ju=>[Value.int .u8 (x.lo.toNat:Int),Value.int .u8 (x.hi.toNat:Int)])))],[2],fun t=>Nat.beq t 5||Nat.beq t 6||Nat.beq t 318||Nat.beq t 319⟩
def Tryz.U:List (Nat×TI):=[
 (1,⟨.func #[] #[] false,1,8,.nilFunc⟩),
 (3,⟨.int .i64,1,8,.int .i64 0⟩),
 (4,⟨.bool,1,1,.bool false⟩),
 (5,⟨.int .u8,1,1,.int .u8 0⟩),
 (9,⟨.string,1,16,.string ⟨#[]⟩⟩),
 (12,⟨.int .u64,1,8,.int .u64 0⟩),
 (21,⟨.int .i32,1,4,.int .i32 0⟩),
 (22,⟨.slice 5,1,24,.slice none 0 0⟩),
 (24,⟨.pointer 111,1,8,.pointer none⟩),
 (25,⟨.int .i64,1,8,.int .i64 0⟩),
 (29,⟨.slice 3,1,24,.slice none 0 0⟩),
 (33,⟨.slice 48,1,24,.slice none 0 0⟩),
 (36,⟨.slice 39,1,24,.slice none 0 0⟩),
 (39,⟨.struct #[{name:= "Prefix",type:=9,offset:=0,embedded:=false,tag:= "",pkgPath:= "",byteOffset:=0},{name:= "URI",type:=9,offset:=1,embedded:=false,tag:= "",pkgPath:= "",byteOffset:=16}],2,32,.agg #[.string ⟨#[]⟩,.string ⟨#[]⟩]⟩),
 (46,⟨.slice 126,1,24,.slice none 0 0⟩),
 (48,⟨.struct #[{name:= "Kind",type:=3,offset:=0,embedded:=false,tag:= "",pkgPath:= "",byteOffset:=0},{name:= "Parent",type:=3,offset:=1,embedded:=false,tag:= "",pkgPath:= "",byteOffset:=8},{name:= "Prefix",type:=9,offset:=2,embedded:=false,tag:= "",pkgPath:= "",byteOffset:=16},{name:= "Local",type:=9,offset:=3,embedded:=false,tag:= "",pkgPath:= "",byteOffset:=32},{name:= "URI",type:=9,offset:=4,embedded:=false,tag:= "",pkgPath:= "",byteOffset:=48},{name:= "Text",type:=9,offset:=5,embedded:=false,tag:= "",pkgPath:= "",byteOffset:=64},{name:= "Decls",type:=36,offset:=6,embedded:=false,tag:= "",pkgPath:= "",byteOffset:=80},{name:= "Attrs",type:=46,offset:=7,embedded:=false,tag:= "",pkgPath:= "",byteOffset:=104}],8,128,.agg #[.int .i64 0,.int .i64 0,.string ⟨#[]⟩,.string ⟨#[]⟩,.string ⟨#[]⟩,.string ⟨#[]⟩,.slice none 0 0,.slice none 0 0]⟩),
 (51,⟨.slice 54,1,24,.slice none 0 0⟩),
 (54,⟨.struct #[{name:= "N",type:=3,offset:=0,embedded:=false,tag:= "",pkgPath:= "",byteOffset:=0},{name:= "Part",type:=3,offset:=1,embedded:=false,tag:= "",pkgPath:= "",byteOffset:=8},{name:= "I",type:=3,offset:=2,embedded:=false,tag:= "",pkgPath:= "",byteOffset:=16}],3,24,.agg #[.int .i64 0,.int .i64 0,.int .i64 0]⟩),
 (72,⟨.pointer 86,1,8,.pointer none⟩),
 (84,⟨.map 9 3,1,8,.map none⟩),
 (86,⟨.struct #[{name:= "Doc",type:=24,offset:=0,embedded:=true,tag:= "",pkgPath:= "",byteOffset:=0},{name:= "ids",type:=84,offset:=1,embedded:=false,tag:= "",pkgPath:= "apostille/ident",byteOffset:=8}],2,16,.agg #[.pointer none,.map none]⟩),
 (91,⟨.array 2 3,2,16,.agg #[.int .i64 0,.int .i64 0]⟩),
 (92,⟨.slice 91,1,24,.slice none 0 0⟩),
 (97,⟨.pointer 104,1,8,.pointer none⟩),
 (98,⟨.func #[9] #[9] false,1,8,.nilFunc⟩),
 (99,⟨.slice 194,1,24,.slice none 0 0⟩),
 (100,⟨.pointer 102,1,8,.pointer none⟩),
 (102,⟨.struct #[{name:= "addr",type:=100,offset:=0,embedded:=false,tag:= "",pkgPath:= "strings",byteOffset:=0},{name:= "buf",type:=22,offset:=1,embedded:=false,tag:= "",pkgPath:= "strings",byteOffset:=8}],2,32,.agg #[.pointer none,.slice none 0 0]⟩),
 (104,⟨.struct #[{name:= "s",type:=9,offset:=0,embedded:=false,tag:= "",pkgPath:= "apostille/parse",byteOffset:=0},{name:= "l",type:=33,offset:=1,embedded:=false,tag:= "",pkgPath:= "apostille/parse",byteOffset:=16},{name:= "path",type:=99,offset:=2,embedded:=false,tag:= "",pkgPath:= "apostille/parse",byteOffset:=40},{name:= "text",type:=102,offset:=3,embedded:=false,tag:= "",pkgPath:= "apostille/parse",byteOffset:=64},{name:= "top",type:=4,offset:=5,embedded:=false,tag:= "",pkgPath:= "apostille/parse",byteOffset:=96}],6,104,.agg #[.string ⟨#[]⟩,.slice none 0 0,.slice none 0 0,.pointer none,.slice none 0 0,.bool false]⟩),
 (107,⟨.struct #[{name:= "a",type:=24,offset:=0,embedded:=false,tag:= "",pkgPath:= "apostille/alike",byteOffset:=0},{name:= "b",type:=24,offset:=1,embedded:=false,tag:= "",pkgPath:= "apostille/alike",byteOffset:=8},{name:= "comments",type:=4,offset:=2,embedded:=false,tag:= "",pkgPath:= "apostille/alike",byteOffset:=16}],3,24,.agg #[.pointer none,.pointer none,.bool false]⟩),
 (109,⟨.func #[3] #[4] false,1,8,.nilFunc⟩),
 (111,⟨.struct #[{name:= "l",type:=33,offset:=0,embedded:=false,tag:= "",pkgPath:= "apostille/doc",byteOffset:=0},{name:= "end",type:=29,offset:=1,embedded:=false,tag:= "",pkgPath:= "apostille/doc",byteOffset:=24},{name:= "top",type:=3,offset:=2,embedded:=false,tag:= "",pkgPath:= "apostille/doc",byteOffset:=48}],3,56,.agg #[.slice none 0 0,.slice none 0 0,.int .i64 0]⟩),
 (112,⟨.pointer 114,1,8,.pointer none⟩),
 (114,⟨.struct #[{name:= "S",type:=9,offset:=0,embedded:=false,tag:= "",pkgPath:= "",byteOffset:=0},{name:= "At",type:=3,offset:=1,embedded:=false,tag:= "",pkgPath:= "",byteOffset:=16},{name:= "L",type:=33,offset:=2,embedded:=false,tag:= "",pkgPath:= "",byteOffset:=24},{name:= "Bad",type:=4,offset:=3,embedded:=false,tag:= "",pkgPath:= "",byteOffset:=48}],4,56,.agg #[.string ⟨#[]⟩,.int .i64 0,.slice none 0 0,.bool false]⟩),
 (117,⟨.slice 9,1,24,.slice none 0 0⟩),
 (120,⟨.map 9 4,1,8,.map none⟩),
 (126,⟨.struct #[{name:= "Prefix",type:=9,offset:=0,embedded:=false,tag:= "",pkgPath:= "",byteOffset:=0},{name:= "Local",type:=9,offset:=1,embedded:=false,tag:= "",pkgPath:= "",byteOffset:=16},{name:= "URI",type:=9,offset:=2,embedded:=false,tag:= "",pkgPath:= "",byteOffset:=32},{name:= "Value",type:=9,offset:=3,embedded:=false,tag:= "",pkgPath:= "",byteOffset:=48}],4,64,.agg #[.string ⟨#[]⟩,.string ⟨#[]⟩,.string ⟨#[]⟩,.string ⟨#[]⟩]⟩),
 (146,⟨.slice 21,1,24,.slice none 0 0⟩),
 (164,⟨.pointer 48,1,8,.pointer none⟩),
 (172,⟨.func #[39,39] #[3] false,1,8,.nilFunc⟩),
 (174,⟨.pointer 5,1,8,.pointer none⟩),
 (175,⟨.func #[126] #[4] false,1,8,.nilFunc⟩),
 (194,⟨.struct #[{name:= "n",type:=3,offset:=0,embedded:=false,tag:= "",pkgPath:= "apostille/parse",byteOffset:=0},{name:= "name",type:=9,offset:=1,embedded:=false,tag:= "",pkgPath:= "apostille/parse",byteOffset:=8}],2,24,.agg #[.int .i64 0,.string ⟨#[]⟩]⟩),
 (203,⟨.slice 205,1,24,.slice none 0 0⟩),
 (205,⟨.struct #[{name:= "n",type:=3,offset:=0,embedded:=false,tag:= "",pkgPath:= "apostille/alike",byteOffset:=0},{name:= "text",type:=9,offset:=1,embedded:=false,tag:= "",pkgPath:= "apostille/alike",byteOffset:=8},{name:= "is",type:=4,offset:=2,embedded:=false,tag:= "",pkgPath:= "apostille/alike",byteOffset:=24}],3,32,.agg #[.int .i64 0,.string ⟨#[]⟩,.bool false]⟩),
 (207,⟨.func #[205,205] #[4] false,1,8,.nilFunc⟩),
 (210,⟨.unsafePointer,1,8,.pointer none⟩),
 (222,⟨.func #[39] #[4] false,1,8,.nilFunc⟩),
 (228,⟨.struct #[{name:= "from",type:=21,offset:=0,embedded:=false,tag:= "",pkgPath:= "apostille/name",byteOffset:=0},{name:= "to",type:=21,offset:=1,embedded:=false,tag:= "",pkgPath:= "apostille/name",byteOffset:=4}],2,8,.agg #[.int .i32 0,.int .i32 0]⟩),
 (233,⟨.array 256 5,256,256,.agg #[.int .u8 0,.int .u8 0,.int .u8 0,.int .u8 0,.int .u8 0,.int .u8 0,.int .u8 0,.int .u8 0,.int .u8 0,.int .u8 0,.int .u8 0,.int .u8 0,.int .u8 0,.int .u8 0,.int .u8 0,.int .u8 0,.int .u8 0,.int .u8 0,.int .u8 0,.int .u8 0,.int .u8 0,.int .u8 0,.int .u8 0,.int .u8 0,.int .u8 0,.int .u8 0,.int .u8 0,.int .u8 0,.int .u8 0,.int .u8 0,.int .u8 0,.int .u8 0,.int .u8 0,.int .u8 0,.int .u8 0,.int .u8 0,.int .u8 0,.int .u8 0,.int .u8 0,.int .u8 0,.int .u8 0,.int .u8 0,.int .u8 0,.int .u8 0,.int .u8 0,.int .u8 0,.int .u8 0,.int .u8 0,.int .u8 0,.int .u8 0,.int .u8 0,.int .u8 0,.int .u8 0,.int .u8 0,.int .u8 0,.int .u8 0,.int .u8 0,.int .u8 0,.int .u8 0,.int .u8 0,.int .u8 0,.int .u8 0,.int .u8 0,.int .u8 0,.int .u8 0,.int .u8 0,.int .u8 0,.int .u8 0,.int .u8 0,.int .u8 0,.int .u8 0,.int .u8 0,.int .u8 0,.int .u8 0,.int .u8 0,.int .u8 0,.int .u8 0,.int .u8 0,.int .u8 0,.int .u8 0,.int .u8 0,.int .u8 0,.int .u8 0,.int .u8 0,.int .u8 0,.int .u8 0,.int .u8 0,.int .u8 0,.int .u8 0,.int .u8 0,.int .u8 0,.int .u8 0,.int .u8 0,.int .u8 0,.int .u8 0,.int .u8 0,.int .u8 0,.int .u8 0,.int .u8 0,.int .u8 0,.int .u8 0,.int .u8 0,.int .u8 0,.int .u8 0,.int .u8 0,.int .u8 0,.int .u8 0,.int .u8 0,.int .u8 0,.int .u8 0,.int .u8 0,.int .u8 0,.int .u8 0,.int .u8 0,.int .u8 0,.int .u8 0,.int .u8 0,.int .u8 0,.int .u8 0,.int .u8 0,.int .u8 0,.int .u8 0,.int .u8 0,.int .u8 0,.int .u8 0,.int .u8 0,.int .u8 0,.int .u8 0,.int .u8 0,.int .u8 0,.int .u8 0,.int .u8 0,.int .u8 0,.int .u8 0,.int .u8 0,.int .u8 0,.int .u8 0,.int .u8 0,.int .u8 0,.int .u8 0,.int .u8 0,.int .u8 0,.int .u8 0,.int .u8 0,.int .u8 0,.int .u8 0,.int .u8 0,.int .u8 0,.int .u8 0,.int .u8 0,.int .u8 0,.int .u8 0,.int .u8 0,.int .u8 0,.int .u8 0,.int .u8 0,.int .u8 0,.int .u8 0,.int .u8 0,.int .u8 0,.int .u8 0,.int .u8 0,.int .u8 0,.int .u8 0,.int .u8 0,.int .u8 0,.int .u8 0,.int .u8 0,.int .u8 0,.int .u8 0,.int .u8 0,.int .u8 0,.int .u8 0,.int .u8 0,.int .u8 0,.int .u8 0,.int .u8 0,.int .u8 0,.int .u8 0,.int .u8 0,.int .u8 0,.int .u8 0,.int .u8 0,.int .u8 0,.int .u8 0,.int .u8 0,.int .u8 0,.int .u8 0,.int .u8 0,.int .u8 0,.int .u8 0,.int .u8 0,.int .u8 0,.int .u8 0,.int .u8 0,.int .u8 0,.int .u8 0,.int .u8 0,.int .u8 0,.int .u8 0,.int .u8 0,.int .u8 0,.int .u8 0,.int .u8 0,.int .u8 0,.int .u8 0,.int .u8 0,.int .u8 0,.int .u8 0,.int .u8 0,.int .u8 0,.int .u8 0,.int .u8 0,.int .u8 0,.int .u8 0,.int .u8 0,.int .u8 0,.int .u8 0,.int .u8 0,.int .u8 0,.int .u8 0,.int .u8 0,.int .u8 0,.int .u8 0,.int .u8 0,.int .u8 0,.int .u8 0,.int .u8 0,.int .u8 0,.int .u8 0,.int .u8 0,.int .u8 0,.int .u8 0,.int .u8 0,.int .u8 0,.int .u8 0,.int .u8 0,.int .u8 0,.int .u8 0,.int .u8 0,.int .u8 0,.int .u8 0,.int .u8 0,.int .u8 0,.int .u8 0,.int .u8 0,.int .u8 0,.int .u8 0,.int .u8 0,.int .u8 0,.int .u8 0,.int .u8 0,.int .u8 0,.int .u8 0,.int .u8 0,.int .u8 0]⟩),
 (235,⟨.struct #[{name:= "lo",type:=5,offset:=0,embedded:=false,tag:= "",pkgPath:= "unicode/utf8",byteOffset:=0},{name:= "hi",type:=5,offset:=1,embedded:=false,tag:= "",pkgPath:= "unicode/utf8",byteOffset:=1}],2,2,.agg #[.int .u8 0,.int .u8 0]⟩),
 (236,⟨.array 16 235,32,32,.agg #[.int .u8 0,.int .u8 0,.int .u8 0,.int .u8 0,.int .u8 0,.int .u8 0,.int .u8 0,.int .u8 0,.int .u8 0,.int .u8 0,.int .u8 0,.int .u8 0,.int .u8 0,.int .u8 0,.int .u8 0,.int .u8 0,.int .u8 0,.int .u8 0,.int .u8 0,.int .u8 0,.int .u8 0,.int .u8 0,.int .u8 0,.int .u8 0,.int .u8 0,.int .u8 0,.int .u8 0,.int .u8 0,.int .u8 0,.int .u8 0,.int .u8 0,.int .u8 0]⟩),
 (237,⟨.int .u64,1,8,.int .u64 0⟩),
 (238,⟨.pointer 260,1,8,.pointer none⟩),
 (242,⟨.int .u32,1,4,.int .u32 0⟩),
 (243,⟨.slice 228,1,24,.slice none 0 0⟩),
 (244,⟨.int .u64,1,8,.int .u64 0⟩),
 (247,⟨.struct #[],0,0,.agg #[]⟩),
 (248,⟨.struct #[],0,0,.agg #[]⟩),
 (250,⟨.struct #[{name:= "_",type:=248,offset:=0,embedded:=false,tag:= "",pkgPath:= "sync/atomic",byteOffset:=0},{name:= "v",type:=242,offset:=0,embedded:=false,tag:= "",pkgPath:= "sync/atomic",byteOffset:=0}],1,4,.agg #[.int .u32 0]⟩),
 (252,⟨.struct #[{name:= "state",type:=21,offset:=0,embedded:=false,tag:= "",pkgPath:= "internal/sync",byteOffset:=0},{name:= "sema",type:=242,offset:=1,embedded:=false,tag:= "",pkgPath:= "internal/sync",byteOffset:=4}],2,8,.agg #[.int .i32 0,.int .u32 0]⟩),
 (254,⟨.struct #[{name:= "_",type:=247,offset:=0,embedded:=false,tag:= "",pkgPath:= "sync",byteOffset:=0},{name:= "mu",type:=252,offset:=0,embedded:=false,tag:= "",pkgPath:= "sync",byteOffset:=0}],2,8,.agg #[.int .i32 0,.int .u32 0]⟩),
 (256,⟨.struct #[{name:= "_",type:=247,offset:=0,embedded:=false,tag:= "",pkgPath:= "sync",byteOffset:=0},{name:= "done",type:=250,offset:=0,embedded:=false,tag:= "",pkgPath:= "sync",byteOffset:=0},{name:= "m",type:=254,offset:=1,embedded:=false,tag:= "",pkgPath:= "sync",byteOffset:=4}],3,12,.agg #[.int .u32 0,.int .i32 0,.int .u32 0]⟩),
 (258,⟨.interface #[("Replace",98),("WriteString",325)],1,16,.nilIface⟩),
 (260,⟨.struct #[{name:= "once",type:=256,offset:=0,embedded:=false,tag:= "",pkgPath:= "strings",byteOffset:=0},{name:= "r",type:=258,offset:=3,embedded:=false,tag:= "",pkgPath:= "strings",byteOffset:=16},{name:= "oldnew",type:=117,offset:=4,embedded:=false,tag:= "",pkgPath:= "strings",byteOffset:=32}],5,56,.agg #[.int .u32 0,.int .i32 0,.int .u32 0,.nilIface,.slice none 0 0]⟩),
 (271,⟨.pointer 256,1,8,.pointer none⟩),
 (276,⟨.pointer 242,1,8,.pointer none⟩),
 (278,⟨.pointer 294,1,8,.pointer none⟩),
 (280,⟨.pointer 300,1,8,.pointer none⟩),
 (282,⟨.array 256 5,256,256,.agg #[.int .u8 0,.int .u8 0,.int .u8 0,.int .u8 0,.int .u8 0,.int .u8 0,.int .u8 0,.int .u8 0,.int .u8 0,.int .u8 0,.int .u8 0,.int .u8 0,.int .u8 0,.int .u8 0,.int .u8 0,.int .u8 0,.int .u8 0,.int .u8 0,.int .u8 0,.int .u8 0,.int .u8 0,.int .u8 0,.int .u8 0,.int .u8 0,.int .u8 0,.int .u8 0,.int .u8 0,.int .u8 0,.int .u8 0,.int .u8 0,.int .u8 0,.int .u8 0,.int .u8 0,.int .u8 0,.int .u8 0,.int .u8 0,.int .u8 0,.int .u8 0,.int .u8 0,.int .u8 0,.int .u8 0,.int .u8 0,.int .u8 0,.int .u8 0,.int .u8 0,.int .u8 0,.int .u8 0,.int .u8 0,.int .u8 0,.int .u8 0,.int .u8 0,.int .u8 0,.int .u8 0,.int .u8 0,.int .u8 0,.int .u8 0,.int .u8 0,.int .u8 0,.int .u8 0,.int .u8 0,.int .u8 0,.int .u8 0,.int .u8 0,.int .u8 0,.int .u8 0,.int .u8 0,.int .u8 0,.int .u8 0,.int .u8 0,.int .u8 0,.int .u8 0,.int .u8 0,.int .u8 0,.int .u8 0,.int .u8 0,.int .u8 0,.int .u8 0,.int .u8 0,.int .u8 0,.int .u8 0,.int .u8 0,.int .u8 0,.int .u8 0,.int .u8 0,.int .u8 0,.int .u8 0,.int .u8 0,.int .u8 0,.int .u8 0,.int .u8 0,.int .u8 0,.int .u8 0,.int .u8 0,.int .u8 0,.int .u8 0,.int .u8 0,.int .u8 0,.int .u8 0,.int .u8 0,.int .u8 0,.int .u8 0,.int .u8 0,.int .u8 0,.int .u8 0,.int .u8 0,.int .u8 0,.int .u8 0,.int .u8 0,.int .u8 0,.int .u8 0,.int .u8 0,.int .u8 0,.int .u8 0,.int .u8 0,.int .u8 0,.int .u8 0,.int .u8 0,.int .u8 0,.int .u8 0,.int .u8 0,.int .u8 0,.int .u8 0,.int .u8 0,.int .u8 0,.int .u8 0,.int .u8 0,.int .u8 0,.int .u8 0,.int .u8 0,.int .u8 0,.int .u8 0,.int .u8 0,.int .u8 0,.int .u8 0,.int .u8 0,.int .u8 0,.int .u8 0,.int .u8 0,.int .u8 0,.int .u8 0,.int .u8 0,.int .u8 0,.int .u8 0,.int .u8 0,.int .u8 0,.int .u8 0,.int .u8 0,.int .u8 0,.int .u8 0,.int .u8 0,.int .u8 0,.int .u8 0,.int .u8 0,.int .u8 0,.int .u8 0,.int .u8 0,.int .u8 0,.int .u8 0,.int .u8 0,.int .u8 0,.int .u8 0,.int .u8 0,.int .u8 0,.int .u8 0,.int .u8 0,.int .u8 0,.int .u8 0,.int .u8 0,.int .u8 0,.int .u8 0,.int .u8 0,.int .u8 0,.int .u8 0,.int .u8 0,.int .u8 0,.int .u8 0,.int .u8 0,.int .u8 0,.int .u8 0,.int .u8 0,.int .u8 0,.int .u8 0,.int .u8 0,.int .u8 0,.int .u8 0,.int .u8 0,.int .u8 0,.int .u8 0,.int .u8 0,.int .u8 0,.int .u8 0,.int .u8 0,.int .u8 0,.int .u8 0,.int .u8 0,.int .u8 0,.int .u8 0,.int .u8 0,.int .u8 0,.int .u8 0,.int .u8 0,.int .u8 0,.int .u8 0,.int .u8 0,.int .u8 0,.int .u8 0,.int .u8 0,.int .u8 0,.int .u8 0,.int .u8 0,.int .u8 0,.int .u8 0,.int .u8 0,.int .u8 0,.int .u8 0,.int .u8 0,.int .u8 0,.int .u8 0,.int .u8 0,.int .u8 0,.int .u8 0,.int .u8 0,.int .u8 0,.int .u8 0,.int .u8 0,.int .u8 0,.int .u8 0,.int .u8 0,.int .u8 0,.int .u8 0,.int .u8 0,.int .u8 0,.int .u8 0,.int .u8 0,.int .u8 0,.int .u8 0,.int .u8 0,.int .u8 0,.int .u8 0,.int .u8 0,.int .u8 0,.int .u8 0,.int .u8 0,.int .u8 0,.int .u8 0,.int .u8 0,.int .u8 0,.int .u8 0,.int .u8 0,.int .u8 0,.int .u8 0,.int .u8 0,.int .u8 0,.int .u8 0,.int .u8 0,.int .u8 0]⟩),
 (283,⟨.pointer 282,1,8,.pointer none⟩),
 (284,⟨.array 256 22,256,6144,.agg #[.slice none 0 0,.slice none 0 0,.slice none 0 0,.slice none 0 0,.slice none 0 0,.slice none 0 0,.slice none 0 0,.slice none 0 0,.slice none 0 0,.slice none 0 0,.slice none 0 0,.slice none 0 0,.slice none 0 0,.slice none 0 0,.slice none 0 0,.slice none 0 0,.slice none 0 0,.slice none 0 0,.slice none 0 0,.slice none 0 0,.slice none 0 0,.slice none 0 0,.slice none 0 0,.slice none 0 0,.slice none 0 0,.slice none 0 0,.slice none 0 0,.slice none 0 0,.slice none 0 0,.slice none 0 0,.slice none 0 0,.slice none 0 0,.slice none 0 0,.slice none 0 0,.slice none 0 0,.slice none 0 0,.slice none 0 0,.slice none 0 0,.slice none 0 0,.slice none 0 0,.slice none 0 0,.slice none 0 0,.slice none 0 0,.slice none 0 0,.slice none 0 0,.slice none 0 0,.slice none 0 0,.slice none 0 0,.slice none 0 0,.slice none 0 0,.slice none 0 0,.slice none 0 0,.slice none 0 0,.slice none 0 0,.slice none 0 0,.slice none 0 0,.slice none 0 0,.slice none 0 0,.slice none 0 0,.slice none 0 0,.slice none 0 0,.slice none 0 0,.slice none 0 0,.slice none 0 0,.slice none 0 0,.slice none 0 0,.slice none 0 0,.slice none 0 0,.slice none 0 0,.slice none 0 0,.slice none 0 0,.slice none 0 0,.slice none 0 0,.slice none 0 0,.slice none 0 0,.slice none 0 0,.slice none 0 0,.slice none 0 0,.slice none 0 0,.slice none 0 0,.slice none 0 0,.slice none 0 0,.slice none 0 0,.slice none 0 0,.slice none 0 0,.slice none 0 0,.slice none 0 0,.slice none 0 0,.slice none 0 0,.slice none 0 0,.slice none 0 0,.slice none 0 0,.slice none 0 0,.slice none 0 0,.slice none 0 0,.slice none 0 0,.slice none 0 0,.slice none 0 0,.slice none 0 0,.slice none 0 0,.slice none 0 0,.slice none 0 0,.slice none 0 0,.slice none 0 0,.slice none 0 0,.slice none 0 0,.slice none 0 0,.slice none 0 0,.slice none 0 0,.slice none 0 0,.slice none 0 0,.slice none 0 0,.slice none 0 0,.slice none 0 0,.slice none 0 0,.slice none 0 0,.slice none 0 0,.slice none 0 0,.slice none 0 0,.slice none 0 0,.slice none 0 0,.slice none 0 0,.slice none 0 0,.slice none 0 0,.slice none 0 0,.slice none 0 0,.slice none 0 0,.slice none 0 0,.slice none 0 0,.slice none 0 0,.slice none 0 0,.slice none 0 0,.slice none 0 0,.slice none 0 0,.slice none 0 0,.slice none 0 0,.slice none 0 0,.slice none 0 0,.slice none 0 0,.slice none 0 0,.slice none 0 0,.slice none 0 0,.slice none 0 0,.slice none 0 0,.slice none 0 0,.slice none 0 0,.slice none 0 0,.slice none 0 0,.slice none 0 0,.slice none 0 0,.slice none 0 0,.slice none 0 0,.slice none 0 0,.slice none 0 0,.slice none 0 0,.slice none 0 0,.slice none 0 0,.slice none 0 0,.slice none 0 0,.slice none 0 0,.slice none 0 0,.slice none 0 0,.slice none 0 0,.slice none 0 0,.slice none 0 0,.slice none 0 0,.slice none 0 0,.slice none 0 0,.slice none 0 0,.slice none 0 0,.slice none 0 0,.slice none 0 0,.slice none 0 0,.slice none 0 0,.slice none 0 0,.slice none 0 0,.slice none 0 0,.slice none 0 0,.slice none 0 0,.slice none 0 0,.slice none 0 0,.slice none 0 0,.slice none 0 0,.slice none 0 0,.slice none 0 0,.slice none 0 0,.slice none 0 0,.slice none 0 0,.slice none 0 0,.slice none 0 0,.slice none 0 0,.slice none 0 0,.slice none 0 0,.slice none 0 0,.slice none 0 0,.slice none 0 0,.slice none 0 0,.slice none 0 0,.slice none 0 0,.slice none 0 0,.slice none 0 0,.slice none 0 0,.slice none 0 0,.slice none 0 0,.slice none 0 0,.slice none 0 0,.slice none 0 0,.slice none 0 0,.slice none 0 0,.slice none 0 0,.slice none 0 0,.slice none 0 0,.slice none 0 0,.slice none 0 0,.slice none 0 0,.slice none 0 0,.slice none 0 0,.slice none 0 0,.slice none 0 0,.slice none 0 0,.slice none 0 0,.slice none 0 0,.slice none 0 0,.slice none 0 0,.slice none 0 0,.slice none 0 0,.slice none 0 0,.slice none 0 0,.slice none 0 0,.slice none 0 0,.slice none 0 0,.slice none 0 0,.slice none 0 0,.slice none 0 0,.slice none 0 0,.slice none 0 0,.slice none 0 0,.slice none 0 0,.slice none 0 0,.slice none 0 0,.slice none 0 0,.slice none 0 0,.slice none 0 0,.slice none 0 0,.slice none 0 0,.slice none 0 0,.slice none 0 0,.slice none 0 0,.slice none 0 0,.slice none 0 0,.slice none 0 0,.slice none 0 0,.slice none 0 0,.slice none 0 0,.slice none 0 0,.slice none 0 0]⟩),
 (286,⟨.struct #[{name:= "replacements",type:=284,offset:=0,embedded:=false,tag:= "",pkgPath:= "strings",byteOffset:=0},{name:= "toReplace",type:=117,offset:=256,embedded:=false,tag:= "",pkgPath:= "strings",byteOffset:=6144}],257,6168,.agg #[.slice none 0 0,.slice none 0 0,.slice none 0 0,.slice none 0 0,.slice none 0 0,.slice none 0 0,.slice none 0 0,.slice none 0 0,.slice none 0 0,.slice none 0 0,.slice none 0 0,.slice none 0 0,.slice none 0 0,.slice none 0 0,.slice none 0 0,.slice none 0 0,.slice none 0 0,.slice none 0 0,.slice none 0 0,.slice none 0 0,.slice none 0 0,.slice none 0 0,.slice none 0 0,.slice none 0 0,.slice none 0 0,.slice none 0 0,.slice none 0 0,.slice none 0 0,.slice none 0 0,.slice none 0 0,.slice none 0 0,.slice none 0 0,.slice none 0 0,.slice none 0 0,.slice none 0 0,.slice none 0 0,.slice none 0 0,.slice none 0 0,.slice none 0 0,.slice none 0 0,.slice none 0 0,.slice none 0 0,.slice none 0 0,.slice none 0 0,.slice none 0 0,.slice none 0 0,.slice none 0 0,.slice none 0 0,.slice none 0 0,.slice none 0 0,.slice none 0 0,.slice none 0 0,.slice none 0 0,.slice none 0 0,.slice none 0 0,.slice none 0 0,.slice none 0 0,.slice none 0 0,.slice none 0 0,.slice none 0 0,.slice none 0 0,.slice none 0 0,.slice none 0 0,.slice none 0 0,.slice none 0 0,.slice none 0 0,.slice none 0 0,.slice none 0 0,.slice none 0 0,.slice none 0 0,.slice none 0 0,.slice none 0 0,.slice none 0 0,.slice none 0 0,.slice none 0 0,.slice none 0 0,.slice none 0 0,.slice none 0 0,.slice none 0 0,.slice none 0 0,.slice none 0 0,.slice none 0 0,.slice none 0 0,.slice none 0 0,.slice none 0 0,.slice none 0 0,.slice none 0 0,.slice none 0 0,.slice none 0 0,.slice none 0 0,.slice none 0 0,.slice none 0 0,.slice none 0 0,.slice none 0 0,.slice none 0 0,.slice none 0 0,.slice none 0 0,.slice none 0 0,.slice none 0 0,.slice none 0 0,.slice none 0 0,.slice none 0 0,.slice none 0 0,.slice none 0 0,.slice none 0 0,.slice none 0 0,.slice none 0 0,.slice none 0 0,.slice none 0 0,.slice none 0 0,.slice none 0 0,.slice none 0 0,.slice none 0 0,.slice none 0 0,.slice none 0 0,.slice none 0 0,.slice none 0 0,.slice none 0 0,.slice none 0 0,.slice none 0 0,.slice none 0 0,.slice none 0 0,.slice none 0 0,.slice none 0 0,.slice none 0 0,.slice none 0 0,.slice none 0 0,.slice none 0 0,.slice none 0 0,.slice none 0 0,.slice none 0 0,.slice none 0 0,.slice none 0 0,.slice none 0 0,.slice none 0 0,.slice none 0 0,.slice none 0 0,.slice none 0 0,.slice none 0 0,.slice none 0 0,.slice none 0 0,.slice none 0 0,.slice none 0 0,.slice none 0 0,.slice none 0 0,.slice none 0 0,.slice none 0 0,.slice none 0 0,.slice none 0 0,.slice none 0 0,.slice none 0 0,.slice none 0 0,.slice none 0 0,.slice none 0 0,.slice none 0 0,.slice none 0 0,.slice none 0 0,.slice none 0 0,.slice none 0 0,.slice none 0 0,.slice none 0 0,.slice none 0 0,.slice none 0 0,.slice none 0 0,.slice none 0 0,.slice none 0 0,.slice none 0 0,.slice none 0 0,.slice none 0 0,.slice none 0 0,.slice none 0 0,.slice none 0 0,.slice none 0 0,.slice none 0 0,.slice none 0 0,.slice none 0 0,.slice none 0 0,.slice none 0 0,.slice none 0 0,.slice none 0 0,.slice none 0 0,.slice none 0 0,.slice none 0 0,.slice none 0 0,.slice none 0 0,.slice none 0 0,.slice none 0 0,.slice none 0 0,.slice none 0 0,.slice none 0 0,.slice none 0 0,.slice none 0 0,.slice none 0 0,.slice none 0 0,.slice none 0 0,.slice none 0 0,.slice none 0 0,.slice none 0 0,.slice none 0 0,.slice none 0 0,.slice none 0 0,.slice none 0 0,.slice none 0 0,.slice none 0 0,.slice none 0 0,.slice none 0 0,.slice none 0 0,.slice none 0 0,.slice none 0 0,.slice none 0 0,.slice none 0 0,.slice none 0 0,.slice none 0 0,.slice none 0 0,.slice none 0 0,.slice none 0 0,.slice none 0 0,.slice none 0 0,.slice none 0 0,.slice none 0 0,.slice none 0 0,.slice none 0 0,.slice none 0 0,.slice none 0 0,.slice none 0 0,.slice none 0 0,.slice none 0 0,.slice none 0 0,.slice none 0 0,.slice none 0 0,.slice none 0 0,.slice none 0 0,.slice none 0 0,.slice none 0 0,.slice none 0 0,.slice none 0 0,.slice none 0 0,.slice none 0 0,.slice none 0 0,.slice none 0 0,.slice none 0 0,.slice none 0 0,.slice none 0 0,.slice none 0 0,.slice none 0 0,.slice none 0 0,.slice none 0 0,.slice none 0 0,.slice none 0 0,.slice none 0 0,.slice none 0 0,.slice none 0 0,.slice none 0 0,.slice none 0 0,.slice none 0 0,.slice none 0 0,.slice none 0 0]⟩),
 (287,⟨.pointer 286,1,8,.pointer none⟩),
 (302,⟨.pointer 252,1,8,.pointer none⟩),
 (304,⟨.pointer 21,1,8,.pointer none⟩)]
theorem Tryz.hU:TabOk Tryz.prog Tryz.U:=
 .cons (by kernel_rfl) (by kernel_rfl)<|
 .cons (by kernel_rfl) (by kernel_rfl)<|
 .cons (by kernel_rfl) (by kernel_rfl)<|
 .cons (by kernel_rfl) (by kernel_rfl)<|
 .cons (by kernel_rfl) (by kernel_rfl)<|
 .cons (by kernel_rfl) (by kernel_rfl)<|
 .cons (by kernel_rfl) (by kernel_rfl)<|
 .cons (by kernel_rfl) (by kernel_rfl)<|
 .cons (by kernel_rfl) (by kernel_rfl)<|
 .cons (by kernel_rfl) (by kernel_rfl)<|
 .cons (by kernel_rfl) (by kernel_rfl)<|
 .cons (by kernel_rfl) (by kernel_rfl)<|
 .cons (by kernel_rfl) (by kernel_rfl)<|
 .cons (by kernel_rfl) (by kernel_rfl)<|
 .cons (by kernel_rfl) (by kernel_rfl)<|
 .cons (by kernel_rfl) (by kernel_rfl)<|
 .cons (by kernel_rfl) (by kernel_rfl)<|
 .cons (by kernel_rfl) (by kernel_rfl)<|
 .cons (by kernel_rfl) (by kernel_rfl)<|
 .cons (by kernel_rfl) (by kernel_rfl)<|
 .cons (by kernel_rfl) (by kernel_rfl)<|
 .cons (by kernel_rfl) (by kernel_rfl)<|
 .cons (by kernel_rfl) (by kernel_rfl)<|
 .cons (by kernel_rfl) (by kernel_rfl)<|
 .cons (by kernel_rfl) (by kernel_rfl)<|
 .cons (by kernel_rfl) (by kernel_rfl)<|
 .cons (by kernel_rfl) (by kernel_rfl)<|
 .cons (by kernel_rfl) (by kernel_rfl)<|
 .cons (by kernel_rfl) (by kernel_rfl)<|
 .cons (by kernel_rfl) (by kernel_rfl)<|
 .cons (by kernel_rfl) (by kernel_rfl)<|
 .cons (by kernel_rfl) (by kernel_rfl)<|
 .cons (by kernel_rfl) (by kernel_rfl)<|
 .cons (by kernel_rfl) (by kernel_rfl)<|
 .cons (by kernel_rfl) (by kernel_rfl)<|
 .cons (by kernel_rfl) (by kernel_rfl)<|
 .cons (by kernel_rfl) (by kernel_rfl)<|
 .cons (by kernel_rfl) (by kernel_rfl)<|
 .cons (by kernel_rfl) (by kernel_rfl)<|
 .cons (by kernel_rfl) (by kernel_rfl)<|
 .cons (by kernel_rfl) (by kernel_rfl)<|
 .cons (by kernel_rfl) (by kernel_rfl)<|
 .cons (by kernel_rfl) (by kernel_rfl)<|
 .cons (by kernel_rfl) (by kernel_rfl)<|
 .cons (by kernel_rfl) (by kernel_rfl)<|
 .cons (by kernel_rfl) (by kernel_rfl)<|
 .cons (by kernel_rfl) (by kernel_rfl)<|
 .cons (by kernel_rfl) (by kernel_rfl)<|
 .cons (by kernel_rfl) (by kernel_rfl)<|
 .cons (by kernel_rfl) (by kernel_rfl)<|
 .cons (by kernel_rfl) (by kernel_rfl)<|
 .cons (by kernel_rfl) (by kernel_rfl)<|
 .cons (by kernel_rfl) (by kernel_rfl)<|
 .cons (by kernel_rfl) (by kernel_rfl)<|
 .cons (by kernel_rfl) (by kernel_rfl)<|
 .cons (by kernel_rfl) (by kernel_rfl)<|
 .cons (by kernel_rfl) (by kernel_rfl)<|
 .cons (by kernel_rfl) (by kernel_rfl)<|
 .cons (by kernel_rfl) (by kernel_rfl)<|
 .cons (by kernel_rfl) (by kernel_rfl)<|
 .cons (by kernel_rfl) (by kernel_rfl)<|
 .cons (by kernel_rfl) (by kernel_rfl)<|
 .cons (by kernel_rfl) (by kernel_rfl)<|
 .cons (by kernel_rfl) (by kernel_rfl)<|
 .cons (by kernel_rfl) (by kernel_rfl)<|
 .cons (by kernel_rfl) (by kernel_rfl)<|
 .cons (by kernel_rfl) (by kernel_rfl)<|
 .cons (by kernel_rfl) (by kernel_rfl)<|
 .cons (by kernel_rfl) (by kernel_rfl)<|
 .cons (by kernel_rfl) (by kernel_rfl)<|
 .cons (by kernel_rfl) (by kernel_rfl)<|
 .cons (by kernel_rfl) (by kernel_rfl)<|
 .cons (by kernel_rfl) (by kernel_rfl)<|
 .cons (by kernel_rfl) (by kernel_rfl)<|
 .cons (by kernel_rfl) (by kernel_rfl)<|
 .cons (by kernel_rfl) (by kernel_rfl)<|
 .nil _
theorem hm:Tryz.prog.follows .mixedOrders=true:=by kernel_rfl
theorem hs54:Tryz.prog.stoodInHeld 54=false:=by kernel_rfl
theorem he54:Tryz.prog.eqGuardType Tryz.prog.depth 54=false:=by kernel_rfl
def zk (x:za):List AV:=[S x.Prefix,S x.URI]
def qu (x:zO):List AV:=[S x.Prefix,S x.Local,S x.URI,S x.Value]
def zl (x:ze):List AV:=[I x.Kind,I x.Parent,S x.Prefix,S x.Local,S x.URI,S x.Text,.vs x.Decls.length (F zk x.Decls),.vs x.Attrs.length (F qu x.Attrs)]
def zq (x:zv):List AV:=[I x.n,S x.name]
def c_TSpan (x:zN):List AV:=[.pl (.int .i32 x.from_),.pl (.int .i32 x.to_)]
def ZN (x:Zb):List AV:=[.vs x.l.length (F zl x.l),.vs x.end_.length (F cI x.end_),I x.top]
def Zw (x:zV):List AV:=[I x.N,I x.Part,I x.I]
def c_TIndex (x:ZV):List AV:=[oP ZN x.Doc,vM kS (fun v=>I v) x.ids]
theorem ZB {s:Str}{r:Int}(h:qt s=some r):XSpec Tryz.prog 241 [.vs s.length (F cU s)] [] (.pl (.int .u64 r)) [] []:=by
 unfold qt at h;refine zd Tryz.hU Tryz.func241 (fun _ _ _ hB=> ?_);refine z.d8.i0.k3.g ?_;refine ZH [] (.q 0 (.q 1 (.q 2 (.q 3 (.q 4 (.q 5 (.q 6 (.q 7 (.q 8 (.q 9 (.q 10 (.q 11 (.q 12 (.q 13 (.q 14 (.q 15 (.q 16 (.q 17 (.q 18 (.q 19 (.q 20 (.q 21 (.q 22 (.q 23 (.q 24 (.q 25 (.q 26 (.q 27 (.q 28 (.q 29 (.q 30 (.q 31 (.q 32 (.q 33 (.q 34 (.q 35 (.q 36 (.q 37 (.q 38 (.q 39 (.q 40 (.q 41 (.q 42 (.q 43 (.q 44 (.q 45 (.q 46 .done))))))))))))))))))))))))))))))))))))))))))))))) hm ?_;refine z.K.g ?_;refine n_at h (fun v1 _ h=> ?_);refine z.K.n9.d.m0.g ?_;refine n_at h (fun v2 _ h=> ?_);refine z.d.n9.d.m0.g ?_;refine n_shlC (r:=(v64 (v2.toNat:Int))*2^8) ?_;refine z.K.l6.d.g ?_;refine n_at h (fun v3 _ h=> ?_);refine z.d.n9.d.m0.g ?_;refine n_shlC (r:=(v64 (v3.toNat:Int))*2^16) ?_;refine z.K.l6.d.g ?_;refine n_at h (fun v4 _ h=> ?_);refine z.d.n9.d.m0.g ?_;refine n_shlC (r:=(v64 (v4.toNat:Int))*2^24) ?_;refine z.K.l6.d.g ?_;refine n_at h (fun v5 _ h=> ?_);refine z.d.n9.d.m0.g ?_;refine n_shlC (r:=(v64 (v5.toNat:Int))*2^32) ?_;refine z.K.l6.d.g ?_;refine n_at h (fun v6 _ h=> ?_);refine z.d.n9.d.m0.g ?_;refine n_shlC (r:=(v64 (v6.toNat:Int))*2^40) ?_;refine z.K.l6.d.g ?_;refine n_at h (fun v7 _ h=> ?_);refine z.d.n9.d.m0.g ?_;refine n_shlC (r:=(v64 (v7.toNat:Int))*2^48) ?_;refine z.K.l6.d.g ?_;refine n_at h (fun v8 _ h=> ?_);refine z.d.n9.d.m0.g ?_;refine n_shlC (r:=(v64 (v8.toNat:Int))*2^56) ?_;refine z.l5.j3.m1.d.l6.d.g ?_;apply zb [] hB h
theorem utf8_Valid_ok {p:Str}{r:Bool}(h:zan p=some r):XSpec Tryz.prog 205 [.vs p.length (F cU p)] [] (B r) [] []:=by
 unfold zan at h;refine zd Tryz.hU Tryz.func205 (fun _ _ _ hB=> ?_);refine z.N.a.N.p.c.g ?_;refine l_sub3 h (fun v1 _ h=> ?_);refine z.c9.b4.g ?_;refine zH (fun y2=>⟨[(0,.vs y2.length (F cU y2))],[],[]⟩) (Sum.elim (fun q40=>(.ret,⟨[(2,B false)],[],[]⟩)) (fun q41=>(.exit 0,⟨[],[],[]⟩))) [] hB h (fun y2 t h=> ?_) (fun q h=> ?_)
 ·unfold ZX at h;refine z.u.N.T.g ?_;refine zn h (fun _ h=> ?_) (fun _ h=> ?_)
  ·refine z.b.k4.g ?_;refine QH h (fun v3 _ h=> ?_);refine z.u.G.l2.g ?_;refine zn h (fun _ h=> ?_) (fun _ h=> ?_)
   ·refine z.b.g ?_;refine l_subf h (fun v4 _ h=> ?_);refine z.f2.g ?_;refine qW (fun q6=>(.normal,⟨[(0,.vs v4.length (F cU v4)),(31,B q6)],[],[]⟩)) h (fun t h=> ?_) (fun q6 h=> ?_)
    ·refine z.w.N.h.g ?_;refine zc h (fun _ h=> ?_) (fun _ h=> ?_)
     ·refine z.f.g ?_;refine zm h (fun _=>ZB) (fun v5 _ h=> ?_);refine z.O.c6.i1.b5.g ?_;exact zp [] hB h
     refine z.b6.m.g ?_;exact zp [] hB h
    refine f_t ?_;refine zn h (fun _ h=> ?_) (fun _ h=> ?_)
    ·refine z.b.g ?_;refine l_subf h (fun v7 _ h=> ?_);refine z.b4.g ?_;refine qW (fun q11=>(.normal,⟨[(0,.vs v7.length (F cU v7)),(46,B q11)],[],[]⟩)) h (fun t h=> ?_) (fun q11 h=> ?_)
     ·refine ZH [] (.q 0 (.q 1 (.q 2 (.q 3 (.q 4 (.q 6 (.q 7 (.e 5 (.e 8 (.q 9 (.q 10 (.q 11 (.q 12 .done))))))))))))) hm ?_;refine z.K.c0.d.m8.K.g ?_;refine QC h (fun _ h=> ?_) (fun _ h=> ?_)
      ·refine z.X.X.h2.g ?_;refine n_subf h (fun v8 _ h=> ?_);refine z.L.g ?_;refine n_call h (fun _=>ZB) (fun v9 _ h=> ?_);refine z.L.g ?_;refine n_call h (fun _=>ZB) (fun v10 _ h=> ?_);refine z.a0.d.c0.s.l6.s.l6.s.g ?_;exact zp [] hB h
      refine z.d9.o7.d0.m9.D.m9.a5.g ?_;exact zp [] hB h
     refine f_t ?_;refine zn h (fun _ h=> ?_) (fun _ h=> ?_)
     ·refine z.b.g ?_;refine l_subf h (fun v12 _ h=> ?_);refine z.j4.g ?_;refine zH (fun y13=>⟨[(0,.vs y13.length (F cU y13))],[],[]⟩) (fun q22=>(.exit 2,⟨[(0,.vs q22.length (F cU q22))],[],[]⟩)) [] hB h (fun y13 t h=> ?_) (fun q22 h=> ?_)
      ·unfold Qo at h;refine z.H.H.g ?_;refine ZH [] (.q 0 (.q 1 (.q 2 (.q 3 (.q 4 (.q 6 (.q 7 (.q 10 (.q 11 (.q 13 (.q 14 (.e 5 (.e 8 (.q 9 (.e 12 (.e 15 (.q 16 (.q 17 (.q 18 (.q 19 (.q 20 .done))))))))))))))))))))) hm ?_;refine z.K.c0.d.m8.K.g ?_;refine QC h (fun _ h=> ?_) (fun _ h=> ?_)
       ·refine z.X.X.h2.g ?_;refine n_subf h (fun v14 _ h=> ?_);refine z.X.s.g ?_;refine n_subf h (fun v15 _ h=> ?_);refine z.X.s.g ?_;refine n_subf h (fun v16 _ h=> ?_);refine z.L.g ?_;refine n_call h (fun _=>ZB) (fun v17 _ h=> ?_);refine z.L.g ?_;refine n_call h (fun _=>ZB) (fun v18 _ h=> ?_);refine z.L.l6.s.g ?_;refine n_call h (fun _=>ZB) (fun v19 _ h=> ?_);refine z.L.g ?_;refine n_call h (fun _=>ZB) (fun v20 _ h=> ?_);refine z.d1.a0.d.c0.s.l6.s.l6.s.l6.s.g ?_;refine zn h (fun _ h=> ?_) (fun _ h=> ?_)
        ·refine z.h.k4.g ?_;refine l_subf h (fun v21 _ h=> ?_);refine z.i6.g ?_;exact zu [] hB h
        refine z.k.g ?_;exact zr [] hB h
       refine z.k.i0.j3.o7.o1.d0.m9.D.m9.o1.D.m9.D.m9.a5.d2.g ?_;exact zr [] hB h
      refine z.n6.k.P.g ?_;exact zu [] hB h
     refine z.n6.k.I.g ?_;exact zu [] hB h
    refine z.n6.k.I.g ?_;exact zu [] hB h
   refine z.y.g ?_;refine l_atg (ev:=(fun x:UInt8=>[Value.int .u8 (x.toNat:Int)])) 0 h (fun v23 _ h=> ?_);refine z.x.h3.x.l2.g ?_;refine l_shrU v23 4 ?_;refine l_atg (ev:=(fun x:Ju=>[Value.int .u8 (x.lo.toNat:Int),Value.int .u8 (x.hi.toNat:Int)])) 1 h (fun v24 _ h=> ?_);refine z.j.b7.c.l7.b.f4.f3.d5.g ?_;refine zn h (fun _ h=> ?_) (fun _ h=> ?_)
   ·refine z.H.H.g ?_;refine ZH [] (.q 0 (.q 1 (.q 2 (.q 3 (.q 4 (.q 5 (.q 6 (.q 7 (.q 8 (.q 9 (.q 10 (.q 11 (.q 12 (.q 13 (.q 14 (.q 15 (.q 16 (.q 17 (.q 18 .done))))))))))))))))))) hm ?_;refine z.K.c0.d.m8.K.g ?_;refine QC h (fun _ h=> ?_) (fun _ h=> ?_)
    ·refine z.B.i7.e0.d1.a0.a5.f7.a5.d2.g ?_;exact zr [] hB h
    refine z.X.h2.g ?_;refine n_at h (fun v25 _ h=> ?_);refine z.K.n0.c0.c1.U.l8.s.g ?_;refine QC h (fun _ h=> ?_) (fun _ h=> ?_)
    ·refine z.B.i7.e0.d1.a0.a5.d2.g ?_;exact zr [] hB h
    refine z.X.c1.p5.h2.g ?_;refine n_at h (fun v26 _ h=> ?_);refine z.d1.o8.c0.c1.s.g ?_;refine zn h (fun _ h=> ?_) (fun _ h=> ?_)
    ·refine z.B.i7.g ?_;exact zr [] hB h
    refine z.h.I.g ?_;refine l_subf h (fun v27 _ h=> ?_);refine z.h4.i6.g ?_;exact zu [] hB h
   refine z.j.b7.c.g ?_;refine zn h (fun _ h=> ?_) (fun _ h=> ?_)
   ·refine z.H.H.g ?_;refine ZH [] (.q 0 (.q 1 (.q 2 (.q 3 (.q 4 (.q 5 (.q 6 (.q 7 (.q 8 (.q 9 (.q 10 (.q 11 (.q 12 (.q 13 (.q 14 (.q 15 (.q 16 (.q 17 (.q 18 (.q 19 (.q 20 (.q 21 (.q 22 (.q 23 (.q 24 (.q 25 (.q 26 (.q 27 (.q 28 (.q 29 (.q 30 .done))))))))))))))))))))))))))))))) hm ?_;refine z.K.c0.d.m8.K.g ?_;refine QC h (fun _ h=> ?_) (fun _ h=> ?_)
    ·refine z.B.i7.e0.d1.a0.f7.f7.a5.f7.a5.d2.g ?_;exact zr [] hB h
    refine z.X.h2.g ?_;refine n_at h (fun v28 _ h=> ?_);refine z.K.n0.c0.c1.U.l8.s.g ?_;refine QC h (fun _ h=> ?_) (fun _ h=> ?_)
    ·refine z.B.i7.e0.d1.a0.f7.f7.a5.d2.g ?_;exact zr [] hB h
    refine z.X.c1.p5.h2.g ?_;refine n_at h (fun v29 _ h=> ?_);refine z.K.n0.c0.c1.s.g ?_;refine QC h (fun _ h=> ?_) (fun _ h=> ?_)
    ·refine z.B.i7.e0.d1.a0.f7.d2.g ?_;exact zr [] hB h
    refine z.X.h2.g ?_;refine n_at h (fun v30 _ h=> ?_);refine z.K.n0.c0.c1.s.g ?_;refine QC h (fun _ h=> ?_) (fun _ h=> ?_)
    ·refine z.B.i7.e0.d1.a0.d2.g ?_;exact zr [] hB h
    refine z.X.h2.g ?_;refine n_at h (fun v31 _ h=> ?_);refine z.d1.o8.c0.c1.s.g ?_;refine zn h (fun _ h=> ?_) (fun _ h=> ?_)
    ·refine z.B.i7.g ?_;exact zr [] hB h
    refine z.h.I.g ?_;refine l_subf h (fun v32 _ h=> ?_);refine z.h4.i6.g ?_;exact zu [] hB h
   refine z.j.b7.c.g ?_;refine zn h (fun _ h=> ?_) (fun _ h=> ?_)
   ·refine z.H.H.g ?_;refine ZH [] (.q 0 (.q 1 (.q 2 (.q 3 (.q 4 (.q 5 (.q 6 (.q 7 (.q 8 (.q 9 (.q 10 (.q 11 (.q 12 (.q 13 (.q 14 (.q 15 (.q 16 (.q 17 (.q 18 (.q 19 (.q 20 (.q 21 (.q 22 (.q 23 (.q 24 (.q 25 (.q 26 (.q 27 (.q 28 (.q 29 (.q 30 (.q 31 (.q 32 (.q 33 (.q 34 (.q 35 (.q 36 (.q 37 (.q 38 (.q 39 (.q 40 (.q 41 (.q 42 .done))))))))))))))))))))))))))))))))))))))))))) hm ?_;refine z.K.c0.d.m8.K.g ?_;refine QC h (fun _ h=> ?_) (fun _ h=> ?_)
    ·refine z.B.i7.e0.d1.a0.f7.f7.f7.f7.a5.f7.a5.d2.g ?_;exact zr [] hB h
    refine z.X.h2.g ?_;refine n_at h (fun v33 _ h=> ?_);refine z.K.n0.c0.c1.U.l8.s.g ?_;refine QC h (fun _ h=> ?_) (fun _ h=> ?_)
    ·refine z.B.i7.e0.d1.a0.f7.f7.f7.f7.a5.d2.g ?_;exact zr [] hB h
    refine z.X.c1.p5.h2.g ?_;refine n_at h (fun v34 _ h=> ?_);refine z.K.n0.c0.c1.s.g ?_;refine QC h (fun _ h=> ?_) (fun _ h=> ?_)
    ·refine z.B.i7.e0.d1.a0.f7.f7.f7.d2.g ?_;exact zr [] hB h
    refine z.X.h2.g ?_;refine n_at h (fun v35 _ h=> ?_);refine z.K.n0.c0.c1.s.g ?_;refine QC h (fun _ h=> ?_) (fun _ h=> ?_)
    ·refine z.B.i7.e0.d1.a0.f7.f7.d2.g ?_;exact zr [] hB h
    refine z.X.h2.g ?_;refine n_at h (fun v36 _ h=> ?_);refine z.K.n0.c0.c1.s.g ?_;refine QC h (fun _ h=> ?_) (fun _ h=> ?_)
    ·refine z.B.i7.e0.d1.a0.f7.d2.g ?_;exact zr [] hB h
    refine z.X.h2.g ?_;refine n_at h (fun v37 _ h=> ?_);refine z.K.n0.c0.c1.s.g ?_;refine QC h (fun _ h=> ?_) (fun _ h=> ?_)
    ·refine z.B.i7.e0.d1.a0.d2.g ?_;exact zr [] hB h
    refine z.X.h2.g ?_;refine n_at h (fun v38 _ h=> ?_);refine z.d1.o8.c0.c1.s.g ?_;refine zn h (fun _ h=> ?_) (fun _ h=> ?_)
    ·refine z.B.i7.g ?_;exact zr [] hB h
    refine z.h.I.g ?_;refine l_subf h (fun v39 _ h=> ?_);refine z.h4.i6.g ?_;exact zu [] hB h
   refine z.B.B.b2.g ?_;exact zr [] hB h
  refine z.k.g ?_;exact zr [] hB h
 rcases q with q40|q41
 ·dsimp only [Sum.elim] at h ⊢
  refine z.a1.g ?_;apply zb [] hB h
 dsimp only [Sum.elim] at h ⊢
 refine z.b2.P.g ?_;apply zb [] hB h
theorem utf_Valid_ok {b:Str}{r:Bool}(h:utf_Valid b=some r):XSpec Tryz.prog 155 [.vs b.length (F cU b)] [] (B r) [] []:=by
 unfold utf_Valid at h;refine zd Tryz.hU Tryz.func155 (fun _ _ _ hB=> ?_);refine z.a8.g ?_;refine zm h (fun _=>utf8_Valid_ok) (fun v1 _ h=> ?_);refine z.l.g ?_;apply zb [] hB h
theorem utf8_decodeRuneSlow_ok {p:Str}{r:Int×Int}(h:ZJ p=some r):XSpec Tryz.prog 206 [.vs p.length (F cU p)] [] (.tup [.pl (.int .i32 r.1),I r.2]) [] []:=by
 unfold ZJ at h;refine zd Tryz.hU Tryz.func206 (fun _ _ _ hB=> ?_);refine z.u.G.N.x.t.g ?_;refine zn h (fun _ h=> ?_) (fun _ h=> ?_)
 ·refine z.Q.g ?_;apply zb [] hB h
 refine z.y.g ?_;refine QH h (fun v1 _ h=> ?_);refine z.x.l2.g ?_;refine l_atg (ev:=(fun x:UInt8=>[Value.int .u8 (x.toNat:Int)])) 0 h (fun v2 _ h=> ?_);refine z.u.G.l2.g ?_;refine zn h (fun _ h=> ?_) (fun _ h=> ?_)
 ·refine z.h7.b.g ?_;refine l_shlC (r:=(w32 (v2.toNat:Int))*2^31) ?_;refine QI (r:=((w32 ((w32 (v2.toNat:Int))*2^31)).fdiv (2^31))) ?_;refine z.x.g ?_;refine QH h (fun v3 _ h=> ?_);refine z.e5.i1.i1.a.i1.a.h7.l2.g ?_;apply zb [] hB h
 refine z.x.h3.y.g ?_;refine l_shrU v2 4 ?_;refine l_atg (ev:=(fun x:Ju=>[Value.int .u8 (x.lo.toNat:Int),Value.int .u8 (x.hi.toNat:Int)])) 1 h (fun v4 _ h=> ?_);refine z.i8.f4.f3.d5.g ?_;refine zn h (fun _ h=> ?_) (fun _ h=> ?_)
 ·refine z.Q.g ?_;apply zb [] hB h
 refine z.y.g ?_;refine QH h (fun v5 _ h=> ?_);refine z.f2.l2.g ?_;refine qW (fun q6=>(.normal,⟨[(0,.vs p.length (F cU p)),(5,U v1),(8,I (w64 ((u8 (band 8 (v2.toNat:Int) 7)).toNat:Int))),(10,U v5),(60,B q6)],[],[]⟩)) h (fun t h=> ?_) (fun q6 h=> ?_)
 ·refine z.w.a2.h.g ?_;refine zc h (fun _ h=> ?_) (fun _ h=> ?_)
  ·refine z.O.m.g ?_;exact zp [] hB h
  refine z.b6.v.p6.b5.g ?_;exact zp [] hB h
 refine f_t ?_;refine zn h (fun _ h=> ?_) (fun _ h=> ?_)
 ·refine z.Q.g ?_;apply zb [] hB h
 refine z.u.b.d8.g ?_;refine zn h (fun _ h=> ?_) (fun _ h=> ?_)
 ·refine z.h3.b.g ?_;refine l_shlC (r:=(w32 ((u8 (band 8 (v1.toNat:Int) 31)).toNat:Int))*2^6) ?_;refine z.e5.i1.h3.a.g ?_;apply zb [] hB h
 refine z.y.g ?_;refine QH h (fun v7 _ h=> ?_);refine z.f2.l2.g ?_;refine qW (fun q8=>(.normal,⟨[(0,.vs p.length (F cU p)),(5,U v1),(8,I (w64 ((u8 (band 8 (v2.toNat:Int) 7)).toNat:Int))),(10,U v5),(11,U v7),(79,B q8)],[],[]⟩)) h (fun t h=> ?_) (fun q8 h=> ?_)
 ·refine z.w.h.g ?_;refine zc h (fun _ h=> ?_) (fun _ h=> ?_)
  ·refine z.O.n.g ?_;exact zp [] hB h
  refine z.b6.v.g ?_;exact zp [] hB h
 refine f_t ?_;refine zn h (fun _ h=> ?_) (fun _ h=> ?_)
 ·refine z.Q.g ?_;apply zb [] hB h
 refine z.u.b.d8.g ?_;refine zn h (fun _ h=> ?_) (fun _ h=> ?_)
 ·refine z.h3.b.g ?_;refine l_shlC (r:=(w32 ((u8 (band 8 (v1.toNat:Int) 15)).toNat:Int))*2^12) ?_;refine z.h3.a.g ?_;refine l_shlC (r:=(w32 ((u8 (band 8 (v5.toNat:Int) 63)).toNat:Int))*2^6) ?_;refine z.e5.i1.h3.a.i1.g ?_;apply zb [] hB h
 refine z.y.g ?_;refine QH h (fun v9 _ h=> ?_);refine z.f2.l2.g ?_;refine qW (fun q10=>(.normal,⟨[(5,U v1),(10,U v5),(11,U v7),(12,U v9),(103,B q10)],[],[]⟩)) h (fun t h=> ?_) (fun q10 h=> ?_)
 ·refine z.w.h.g ?_;refine zc h (fun _ h=> ?_) (fun _ h=> ?_)
  ·refine z.O.n.g ?_;exact zp [] hB h
  refine z.b6.v.g ?_;exact zp [] hB h
 refine f_t ?_;refine zn h (fun _ h=> ?_) (fun _ h=> ?_)
 ·refine z.Q.g ?_;apply zb [] hB h
 refine z.h3.y.g ?_;refine l_shlC (r:=(w32 ((u8 (band 8 (v1.toNat:Int) 7)).toNat:Int))*2^18) ?_;refine z.h3.a.g ?_;refine l_shlC (r:=(w32 ((u8 (band 8 (v5.toNat:Int) 63)).toNat:Int))*2^12) ?_;refine z.h3.a.i1.g ?_;refine l_shlC (r:=(w32 ((u8 (band 8 (v7.toNat:Int) 63)).toNat:Int))*2^6) ?_;refine z.a3.i1.h3.a.i1.g ?_;apply zb [] hB h
theorem utf8_DecodeRune_ok {p:Str}{r:Int×Int}(h:Qa p=some r):XSpec Tryz.prog 156 [.vs p.length (F cU p)] [] (.tup [.pl (.int .i32 r.1),I r.2]) [] []:=by
 unfold Qa at h;refine zd Tryz.hU Tryz.func156 (fun _ _ _ hB=> ?_);refine z.e6.G.t.g ?_;refine zH (fun y1=>⟨[(0,.vs p.length (F cU p)),(6,.vs p.length (F cU p)),(7,I (p.length:Int)),(8,I 0)],[],[]⟩) (Sum.elim (fun q3=>(.ret,⟨[(2,.pl (.int .i32 q3)),(3,I 1)],[],[]⟩)) (fun q4=>(.exit 0,⟨[(0,.vs p.length (F cU p))],[],[]⟩))) [] hB h (fun y1 t h=> ?_) (fun q h=> ?_)
 ·unfold Qt at h;refine z.b8.g ?_;refine zn h (fun _ h=> ?_) (fun _ h=> ?_)
  ·refine z.c.a4.g ?_;refine QH h (fun v2 _ h=> ?_);refine z.u.G.l2.g ?_;refine zn h (fun _ h=> ?_) (fun _ h=> ?_)
   ·refine z.a1.e5.h7.b.g ?_;exact zr [] hB h
   refine z.q9.q8.q7.I.g ?_;exact zr [] hB h
  refine z.k.g ?_;exact zr [] hB h
 rcases q with q3|q4
 ·dsimp only [Sum.elim] at h ⊢
  refine z.a1.g ?_;apply zb [] hB h
 dsimp only [Sum.elim] at h ⊢
 refine z.i9.g ?_;refine zm h (fun _=>utf8_decodeRuneSlow_ok) (fun v5 _ h=> ?_);refine z.l.M.g ?_;apply zb [] hB h
theorem utf_Chars_ok {b:Str}{r:(List Int)×Bool}(h:zaw b=some r):XSpec Tryz.prog 96 [.vs b.length (F cU b)] [] (.tup [.sl 1 0 r.1.length,B r.2]) [(1,.row 21 1 0 (F cR r.1))] []:=by
 unfold zaw at h;refine zd Tryz.hU Tryz.func96 (fun _ _ _ hB=> ?_);refine z.G.t.g ?_;refine zm h (fun _=>utf_Valid_ok) (fun v1 _ h=> ?_);refine z.d3.g ?_;refine zn h (fun _ h=> ?_) (fun _ h=> ?_)
 ·refine z.Q.g ?_;refine f_nilrow (te:=21) (t:=2) 3002 1 ?_;apply zb [(3002,1)] hB h
 refine z.j4.c.k3.I.g ?_;refine k_nilrow (te:=21) (t:=4) 3004 1 ?_;refine zH (fun y2=>⟨[(0,.vs b.length (F cU b)),(4,.sl 3004 0 y2.2.length),(5,I y2.1)],[(3004,.row 21 1 0 (F cR y2.2))],[]⟩) (fun q6=>(.exit 0,⟨[(4,.sl 3004 0 q6.length)],[(3004,.row 21 1 0 (F cR q6))],[]⟩)) [(3004,3004)] hB h (fun y2 t h=> ?_) (fun q6 h=> ?_)
 ·unfold Qi at h;refine z.u.N.m2.g ?_;refine zn h (fun _ h=> ?_) (fun _ h=> ?_)
  ·refine z.i.k4.g ?_;refine l_subf h (fun v3 _ h=> ?_);refine zm h (fun _=>utf8_DecodeRune_ok) (fun v4 _ h=> ?_);refine z.p.M.g ?_;refine QM (e:=cR) [v4.1] ?_;refine Q9 h (fun v5 _ h=> ?_);refine z.h4.c2.C.j.g ?_;exact zu [(3004,3004)] hB h
  refine z.k.g ?_;exact zr [(3004,3004)] hB h
 refine z.a3.i9.g ?_;apply zb [(3004,1)] hB h
theorem utf_Xml_ok {r_:Int}{r:Bool}(h:utf_Xml r_=some r):XSpec Tryz.prog 97 [.pl (.int .i32 r_)] [] (B r) [] []:=by
 unfold utf_Xml at h;refine zd Tryz.hU Tryz.func97 (fun _ _ _ hB=> ?_);refine z.k3.g ?_;refine qW (Sum.elim (fun q1=>(.ret,⟨[(2,B true)],[],[]⟩)) (fun q2=>(.normal,⟨[(0,.pl (.int .i32 r_))],[],[]⟩))) h (fun t h=> ?_) (fun q h=> ?_)
 ·refine z.j.b7.T.c9.g ?_;refine zn h (fun _ h=> ?_) (fun _ h=> ?_)
  ·refine z.I.g ?_;refine zn h (fun _ h=> ?_) (fun _ h=> ?_)
   ·refine z.B.b2.g ?_;exact zp [] hB h
   refine z.h4.Y.g ?_;exact zp [] hB h
  refine z.j.b7.b.g ?_;refine zn h (fun _ h=> ?_) (fun _ h=> ?_)
  ·refine z.I.g ?_;refine zn h (fun _ h=> ?_) (fun _ h=> ?_)
   ·refine z.B.b2.g ?_;exact zp [] hB h
   refine z.h4.Y.g ?_;exact zp [] hB h
  refine z.j.b7.h.g ?_;refine zn h (fun _ h=> ?_) (fun _ h=> ?_)
  ·refine z.B.b2.g ?_;exact zp [] hB h
  refine z.h4.Y.g ?_;exact zp [] hB h
 rcases q with q1|q2
 ·dsimp only [Sum.elim] at h ⊢
  refine f_tr ?_;apply zb [] hB h
 dsimp only [Sum.elim] at h ⊢
 refine z.w.b.d1.g ?_;refine zc h (fun _ h=> ?_) (fun _ h=> ?_)
 ·refine z.b3.v.g ?_;refine zc h (fun _ h=> ?_) (fun _ h=> ?_)
  ·refine z.b9.n.R.n.m.g ?_;apply zb [] hB h
  refine z.r.v.g ?_;refine zc h (fun _ h=> ?_) (fun _ h=> ?_)
  ·refine z.q.f5.v.g ?_;refine zc h (fun _ h=> ?_) (fun _ h=> ?_)
   ·refine z.b9.n.m.g ?_;apply zb [] hB h
   refine z.r.v.g ?_;refine zc h (fun _ h=> ?_) (fun _ h=> ?_)
   ·refine z.c3.f5.v.g ?_;apply zb [] hB h
   refine z.c3.f8.n.g ?_;apply zb [] hB h
  refine z.r.v.q.f8.n.g ?_;refine zc h (fun _ h=> ?_) (fun _ h=> ?_)
  ·refine z.c3.f5.v.g ?_;apply zb [] hB h
  refine z.c3.f8.n.g ?_;apply zb [] hB h
 refine z.r.v.q.n.g ?_;refine zc h (fun _ h=> ?_) (fun _ h=> ?_)
 ·refine z.q.f5.v.g ?_;refine zc h (fun _ h=> ?_) (fun _ h=> ?_)
  ·refine z.b9.n.m.g ?_;apply zb [] hB h
  refine z.r.v.g ?_;refine zc h (fun _ h=> ?_) (fun _ h=> ?_)
  ·refine z.c3.f5.v.g ?_;apply zb [] hB h
  refine z.c3.f8.n.g ?_;apply zb [] hB h
 refine z.r.v.q.f8.n.g ?_;refine zc h (fun _ h=> ?_) (fun _ h=> ?_)
 ·refine z.c3.f5.v.g ?_;apply zb [] hB h
 refine z.c3.f8.n.g ?_;apply zb [] hB h
theorem utf_Text_ok {b:Str}{r:Bool}(h:utf_Text b=some r):XSpec Tryz.prog 58 [.vs b.length (F cU b)] [] (B r) [] []:=by
 unfold utf_Text at h;refine zd Tryz.hU Tryz.func58 (fun _ _ _ hB=> ?_);refine z.a8.g ?_;refine zi [(1,100901)] [] h (fun _=>utf_Chars_ok) (fun v1 _ h=> ?_);refine z.e6.G.M.g ?_;refine zH (fun y2=>⟨[(4,B y2.1),(12,.sl 100901 0 v1.1.length),(13,I (v1.1.length:Int)),(14,I y2.2)],[(100901,.row 21 1 0 (F cR v1.1))],[]⟩) (fun q5=>(.exit 0,⟨[(4,B q5)],[],[]⟩)) [(100901,100901)] hB h (fun y2 t h=> ?_) (fun q5 h=> ?_)
 ·unfold zax at h;refine z.b8.g ?_;refine zn h (fun _ h=> ?_) (fun _ h=> ?_)
  ·refine z.c.a4.g ?_;refine Jg h (fun v3 ev3 h=> ?_);refine Jc ev3 ?_;refine z.C.j.g ?_;refine zc h (fun _ h=> ?_) (fun _ h=> ?_)
   ·refine z.f.g ?_;refine zm h (fun _=>utf_Xml_ok) (fun v4 _ h=> ?_);refine z.e1.E.c7.g ?_;exact zu [(100901,100901)] hB h
   refine z.e1.E.e7.g ?_;exact zu [(100901,100901)] hB h
  refine z.k.g ?_;exact zr [] hB h
 refine z.l.i9.g ?_;apply zb [] hB h
theorem strings_Count_ok {s sep:Str}{r:Int}(h:zag s sep=some r):XSpec Tryz.prog 207 [S s,S sep] [] (I r) [] []:=by
 unfold zag at h
 cases e:decide (s.length<4294967281∧1≤sep.length) with
 |false=>rw [e] at h;cases h
 |true=>
  rw [e] at h;cases h
  have e:=of_decide_eq_true e
  exact lift_x (args:=[.string ⟨s.toArray⟩,.string ⟨sep.toArray⟩]) (fun es w=>enters_of Tryz.func207 (by kernel_rfl) rfl es w) (fun w hi=>by
   obtain ⟨n,hn⟩:=hi 2 (by decide)
   exact Tryz.strings_Count_any ⟨s.toArray⟩ ⟨sep.toArray⟩ n w e.1 hn e.2)
theorem stringslite_Index_ok {s sep:Str}{r:Int}(h:stringslite_Index s sep=some r):XSpec Tryz.prog 245 [S s,S sep] [] (I r) [] []:=by
 unfold stringslite_Index at h
 cases e:decide (s.length<4294967281) with
 |false=>rw [e] at h;cases h
 |true=>
  rw [e] at h;cases h
  have e:=of_decide_eq_true e
  exact lift_x (args:=[.string ⟨s.toArray⟩,.string ⟨sep.toArray⟩]) (fun es w=>enters_of Tryz.func245 (by kernel_rfl) rfl es w) (fun w hi=>by
   obtain ⟨n,hn⟩:=hi 2 (by decide)
   exact Tryz.stringslite_Index ⟨s.toArray⟩ ⟨sep.toArray⟩ n w e hn)
theorem strings_Index_ok {s:Str}{substr:Str}{r:Int}(h:Ql s substr=some r):XSpec Tryz.prog 209 [S s,S substr] [] (I r) [] []:=by
 unfold Ql at h;refine zd Tryz.hU Tryz.func209 (fun _ _ _ hB=> ?_);refine z.p.c.g ?_;refine zm h (fun _=>stringslite_Index_ok) (fun v1 _ h=> ?_);refine z.l.g ?_;apply zb [] hB h
theorem Q8 {s:Str}{r:Int×Int}(h:Zy s=some r):XSpec Tryz.prog 246 [S s] [] (.tup [.pl (.int .i32 r.1),I r.2]) [] []:=by
 unfold Zy at h;refine zd Tryz.hU Tryz.func246 (fun _ _ _ hB=> ?_);refine z.u.G.V.x.t.g ?_;refine zn h (fun _ h=> ?_) (fun _ h=> ?_)
 ·refine z.Q.g ?_;apply zb [] hB h
 refine z.y.g ?_;refine Qz h (fun v1 _ h=> ?_);refine z.x.g ?_;refine l_atg (ev:=(fun x:UInt8=>[Value.int .u8 (x.toNat:Int)])) 0 h (fun v2 _ h=> ?_);refine z.u.G.l2.g ?_;refine zn h (fun _ h=> ?_) (fun _ h=> ?_)
 ·refine z.h7.b.g ?_;refine l_shlC (r:=(w32 (v2.toNat:Int))*2^31) ?_;refine QI (r:=((w32 ((w32 (v2.toNat:Int))*2^31)).fdiv (2^31))) ?_;refine z.x.g ?_;refine Qz h (fun v3 _ h=> ?_);refine z.e5.i1.i1.a.i1.a.h7.g ?_;apply zb [] hB h
 refine z.x.h3.y.g ?_;refine l_shrU v2 4 ?_;refine l_atg (ev:=(fun x:Ju=>[Value.int .u8 (x.lo.toNat:Int),Value.int .u8 (x.hi.toNat:Int)])) 1 h (fun v4 _ h=> ?_);refine z.i8.f4.f3.d5.g ?_;refine zn h (fun _ h=> ?_) (fun _ h=> ?_)
 ·refine z.Q.g ?_;apply zb [] hB h
 refine z.y.g ?_;refine Qz h (fun v5 _ h=> ?_);refine z.f2.g ?_;refine qW (fun q6=>(.normal,⟨[(0,S s),(5,U v1),(8,I (w64 ((u8 (band 8 (v2.toNat:Int) 7)).toNat:Int))),(10,U v5),(57,B q6)],[],[]⟩)) h (fun t h=> ?_) (fun q6 h=> ?_)
 ·refine z.w.a2.h.g ?_;refine zc h (fun _ h=> ?_) (fun _ h=> ?_)
  ·refine z.O.m.g ?_;exact zp [] hB h
  refine z.b6.v.p6.b5.g ?_;exact zp [] hB h
 refine f_t ?_;refine zn h (fun _ h=> ?_) (fun _ h=> ?_)
 ·refine z.Q.g ?_;apply zb [] hB h
 refine z.u.b.d8.g ?_;refine zn h (fun _ h=> ?_) (fun _ h=> ?_)
 ·refine z.h3.b.g ?_;refine l_shlC (r:=(w32 ((u8 (band 8 (v1.toNat:Int) 31)).toNat:Int))*2^6) ?_;refine z.e5.i1.h3.a.g ?_;apply zb [] hB h
 refine z.y.g ?_;refine Qz h (fun v7 _ h=> ?_);refine z.f2.g ?_;refine qW (fun q8=>(.normal,⟨[(0,S s),(5,U v1),(8,I (w64 ((u8 (band 8 (v2.toNat:Int) 7)).toNat:Int))),(10,U v5),(11,U v7),(75,B q8)],[],[]⟩)) h (fun t h=> ?_) (fun q8 h=> ?_)
 ·refine z.w.h.g ?_;refine zc h (fun _ h=> ?_) (fun _ h=> ?_)
  ·refine z.O.n.g ?_;exact zp [] hB h
  refine z.b6.v.g ?_;exact zp [] hB h
 refine f_t ?_;refine zn h (fun _ h=> ?_) (fun _ h=> ?_)
 ·refine z.Q.g ?_;apply zb [] hB h
 refine z.u.b.d8.g ?_;refine zn h (fun _ h=> ?_) (fun _ h=> ?_)
 ·refine z.h3.b.g ?_;refine l_shlC (r:=(w32 ((u8 (band 8 (v1.toNat:Int) 15)).toNat:Int))*2^12) ?_;refine z.h3.a.g ?_;refine l_shlC (r:=(w32 ((u8 (band 8 (v5.toNat:Int) 63)).toNat:Int))*2^6) ?_;refine z.e5.i1.h3.a.i1.g ?_;apply zb [] hB h
 refine z.y.g ?_;refine Qz h (fun v9 _ h=> ?_);refine z.f2.g ?_;refine qW (fun q10=>(.normal,⟨[(5,U v1),(10,U v5),(11,U v7),(12,U v9),(98,B q10)],[],[]⟩)) h (fun t h=> ?_) (fun q10 h=> ?_)
 ·refine z.w.h.g ?_;refine zc h (fun _ h=> ?_) (fun _ h=> ?_)
  ·refine z.O.n.g ?_;exact zp [] hB h
  refine z.b6.v.g ?_;exact zp [] hB h
 refine f_t ?_;refine zn h (fun _ h=> ?_) (fun _ h=> ?_)
 ·refine z.Q.g ?_;apply zb [] hB h
 refine z.h3.y.g ?_;refine l_shlC (r:=(w32 ((u8 (band 8 (v1.toNat:Int) 7)).toNat:Int))*2^18) ?_;refine z.h3.a.g ?_;refine l_shlC (r:=(w32 ((u8 (band 8 (v5.toNat:Int) 63)).toNat:Int))*2^12) ?_;refine z.h3.a.i1.g ?_;refine l_shlC (r:=(w32 ((u8 (band 8 (v7.toNat:Int) 63)).toNat:Int))*2^6) ?_;refine z.a3.i1.h3.a.i1.g ?_;apply zb [] hB h
theorem JT {s:Str}{r:Int×Int}(h:Z5 s=some r):XSpec Tryz.prog 210 [S s] [] (.tup [.pl (.int .i32 r.1),I r.2]) [] []:=by
 unfold Z5 at h;refine zd Tryz.hU Tryz.func210 (fun _ _ _ hB=> ?_);refine z.a.j0.G.t.g ?_;refine zc h (fun _ h=> ?_) (fun _ h=> ?_)
 ·refine z.f.g ?_;refine Qz h (fun v1 _ h=> ?_);refine z.i2.c6.g ?_;refine zn h (fun _ h=> ?_) (fun _ h=> ?_)
  ·refine z.b.g ?_;refine Qz h (fun v2 _ h=> ?_);refine z.e5.h7.g ?_;apply zb [] hB h
  refine z.h.g ?_;refine zm h (fun _=>Q8) (fun v3 _ h=> ?_);refine z.l.M.g ?_;apply zb [] hB h
 refine z.h.h8.o.g ?_;refine zm h (fun _=>Q8) (fun v4 _ h=> ?_);refine z.l.M.g ?_;apply zb [] hB h
theorem strings_Builder_copyCheck_s1_ok {u1:Bool}{r:Unit}(h:Zm u1=some r):XSpec Tryz.prog 139 [.ptr 2000101 0] [(2000101,.box 102 [.nptr u1 2000101 0,.pl (.slice none 0 0)])] (.tup []) [(2000101,.box 102 [.nptr false 2000101 0,.pl (.slice none 0 0)])] []:=by
 unfold Zm at h;refine zd Tryz.hU Tryz.func139 (fun _ _ _ hB=> ?_);refine z.a9.b.g ?_
 cases u1 with
 |true=>
  replace h:=bif_t h
  refine z.o9.C.e0.e.o2.g ?_;refine l_nat (noEscape_spec Tryz.func193 (.ptr 2000101 0:AV)) ?_;refine l_fromunsafe (P:=Tryz.prog) ?_;refine z.d4.m5.c4.g ?_;apply zb [(2000101,2000101)] hB h
 |false=>
  replace h:=bif_f h
  refine z.Y.i0.e.p9.i3.b.i0.e.o2.g ?_;apply zb [(2000101,2000101)] hB h
theorem strings_Builder_grow_s1_ok {u1:Int}{u2:Bool}{r:Unit}(h:Z8 u1 u2=some r):XSpec Tryz.prog 244 [.ptr 3000101 0,I u1] [(3000101,.box 102 [.nptr u2 3000101 0,.pl (.slice none 0 0)])] (.tup []) [(3000101,.box 102 [.nptr u2 3000101 0,.sl 3000151 0 0]),(3000151,.row 5 1 0 (F cU []))] []:=by
 unfold Z8 at h;refine zd Tryz.hU Tryz.func244 (fun _ _ _ hB=> ?_);refine k_seq ?_;refine ZH [] (.q 0 (.q 1 (.q 2 (.q 3 (.q 4 (.q 5 (.q 6 (.q 7 (.q 9 (.q 10 (.q 11 (.q 12 (.q 13 (.e 8 (.q 14 (.q 15 .done)))))))))))))))) hm ?_;refine z.D.r1.d.e8.m6.K.s3.d.r0.d.e8.g ?_;refine n_mnz Tryz.func260 h (fun v1 _ h=> ?_);refine gq ?_;refine n_subp h (fun h=> ?_);refine z.d4.m5.c4.C.e.s4.a9.i.j3.m1.d.g ?_;apply zb [(3000101,3000101),(1013,3000151)] hB h
theorem JX {u1:Int}{u2:Bool}{r:Unit}(h:qR u1 u2=some r):XSpec Tryz.prog 208 [.ptr 1000101 0,I u1] [(1000101,.box 102 [.nptr u2 1000101 0,.pl (.slice none 0 0)])] (.tup []) [(1000101,.box 102 [.nptr false 1000101 0,.sl 1000151 0 0]),(1000151,.row 5 1 0 (F cU []))] []:=by
 unfold qR at h;refine zd Tryz.hU Tryz.func208 (fun _ _ _ hB=> ?_);refine z.b.g ?_;refine zi [(2000101,1000101)] [1000101] h (fun _=>strings_Builder_copyCheck_s1_ok) (fun v1 _ h=> ?_);refine z.u.T.e.g ?_;refine zn h (fun _ h=> ?_) (fun _ h=> ?_)
 ·refine k_reg ?_
  cases h
 refine z.d8.g ?_;refine ZH [] (.q 0 (.q 1 (.q 2 (.q 3 (.q 4 (.q 5 (.q 6 (.q 7 (.q 8 (.q 9 (.q 10 (.q 11 (.q 12 .done))))))))))))) hm ?_;refine z.j3.c0.K.m3.d.r1.d.e8.r0.d.e8.g ?_;refine zn h (fun _ h=> ?_) (fun _ h=> ?_)
 ·refine z.C.g ?_;refine zi [(3000101,1000101),(3000151,102451)] [1000101] h (fun _=>strings_Builder_grow_s1_ok) (fun v2 _ h=> ?_);refine k_nil ?_;apply zb [(1000101,1000101),(102451,1000151)] hB h
 refine k_skip ?_;refine f_nilcell (te:=5) (b1:=1000101) (j:=1) 10004011 1 ?_;apply zb [(1000101,1000101),(10004011,1000151)] hB h
theorem strings_Builder_copyCheck_s2_ok {u1:Bool}{u2:Str}{r:Unit}(h:Zq u1 u2=some r):XSpec Tryz.prog 139 [.ptr 5000101 0] [(5000101,.box 102 [.nptr u1 5000101 0,.sl 5000102 0 u2.length]),(5000102,.row 5 1 0 (F cU u2))] (.tup []) [(5000101,.box 102 [.nptr false 5000101 0,.sl 5000102 0 u2.length]),(5000102,.row 5 1 0 (F cU u2))] []:=by
 unfold Zq at h;refine zd Tryz.hU Tryz.func139 (fun _ _ _ hB=> ?_);refine z.a9.b.g ?_
 cases u1 with
 |true=>
  replace h:=bif_t h
  refine z.o9.C.e0.e.o2.g ?_;refine l_nat (noEscape_spec Tryz.func193 (.ptr 5000101 0:AV)) ?_;refine l_fromunsafe (P:=Tryz.prog) ?_;refine z.d4.m5.c4.g ?_;apply zb [(5000101,5000101),(5000102,5000102)] hB h
 |false=>
  replace h:=bif_f h
  refine z.Y.i0.e.p9.i3.b.i0.e.o2.g ?_;apply zb [(5000101,5000101),(5000102,5000102)] hB h
theorem zj {u1:Str}{u2:Bool}{u3:Str}{r:Int×Str}(h:zf u1 u2 u3=some r):XSpec Tryz.prog 78 [.ptr 4000101 0,S u1] [(4000101,.box 102 [.nptr u2 4000101 0,.sl 4000102 0 u3.length]),(4000102,.row 5 1 0 (F cU u3))] (.tup [I r.1,.pl .nilIface]) [(4000101,.box 102 [.nptr false 4000101 0,.sl 4000102 0 r.2.length]),(4000102,.row 5 1 0 (F cU r.2))] [4000102]:=by
 unfold zf at h;refine zd Tryz.hU Tryz.func78 (fun _ _ _ hB=> ?_);refine z.x.t.g ?_;refine zi [(5000101,4000101),(5000102,4000102)] [4000101,4000102] h (fun _=>strings_Builder_copyCheck_s2_ok) (fun v1 _ h=> ?_);refine z.i3.i.e.g ?_;refine l_apps h (fun v2 _ h=> ?_);refine z.a3.V.b.k5.g ?_;apply zb [(4000101,4000101),(4000102,4000102)] hB h
theorem zP {u1:Bool}{u2:Str}{r:Str}(h:zB u1 u2=some r):XSpec Tryz.prog 79 [.ptr 6000101 0] [(6000101,.box 102 [.nptr u1 6000101 0,.sl 6000102 0 u2.length]),(6000102,.row 5 1 0 (F cU u2))] (S r) [(6000101,.box 102 [.nptr u1 6000101 0,.junk])] [6000102]:=by
 unfold zB at h;refine zd Tryz.hU Tryz.func79 (fun _ _ _ hB=> ?_);refine z.k3.g ?_;refine ZH [10] (.q 0 (.q 1 (.q 2 (.q 3 (.q 5 (.q 6 (.q 7 (.q 8 (.q 9 (.e 4 (.e 10 (.q 11 .done)))))))))))) hm ?_;refine z.D.r2.D.m8.d.e8.e8.g ?_;refine n_ustr h (fun v1 _ h=> ?_);refine z.l5.j3.m1.d.g ?_;apply zb [(6000101,6000101)] hB h
theorem strings_Replace_ok {s:Str}{old:Str}{new:Str}{n:Int}{r:Str}(h:JA s old new n=some r):XSpec Tryz.prog 157 [S s,S old,S new,I n] [] (S r) [] []:=by
 unfold JA at h;refine zd Tryz.hU Tryz.func157 (fun _ _ _ hB=> ?_);refine z.f2.c.g ?_;refine qW (fun q1=>(.normal,⟨[(0,S s),(1,S old),(2,S new),(3,I n),(22,B q1)],[],[]⟩)) h (fun t h=> ?_) (fun q1 h=> ?_)
 ·refine z.a.W.C.g ?_;refine zc h (fun _ h=> ?_) (fun _ h=> ?_)
  ·refine z.O.n.g ?_;exact zp [] hB h
  refine z.b6.v.g ?_;exact zp [] hB h
 refine f_t ?_;refine zn h (fun _ h=> ?_) (fun _ h=> ?_)
 ·refine z.l9.b.g ?_;apply zb [] hB h
 refine z.i.d8.g ?_;refine zm h (fun _=>strings_Count_ok) (fun v2 _ h=> ?_);refine z.u.x.g ?_;refine zn h (fun _ h=> ?_) (fun _ h=> ?_)
 ·refine z.l9.b.g ?_;apply zb [] hB h
 refine k_seq ?_;refine qW (fun q3=>(.normal,⟨[(0,S s),(1,S old),(2,S new),(3,I n),(9,I v2),(36,B q3)],[],[]⟩)) h (fun t h=> ?_) (fun q3 h=> ?_)
 ·refine z.w.h.g ?_;refine zc h (fun _ h=> ?_) (fun _ h=> ?_)
  ·refine z.O.o.g ?_;exact zp [] hB h
  refine z.b6.v.r.g ?_;exact zp [] hB h
 refine f_t ?_;refine zn h (fun _ h=> ?_) (fun _ h=> ?_)
 ·refine z.d6.m7.S.V.a.V.j5.V.c8.f3.c.j.h.g ?_;refine l_npcell (b:=1010) (j:=0) 1010 0 ?_;refine zi [(1000101,1010),(1000151,104851)] [1010] h (fun _=>JX) (fun v4 _ h=> ?_);refine z.u.V.e9.e.g ?_;refine zn h (fun _ h=> ?_) (fun _ h=> ?_)
  ·refine z.l7.i.g ?_;refine zH (fun y5=>⟨[(0,S s),(1,S old),(2,S new),(10,.ptr 1010 0),(11,I y5.1),(52,I v2),(53,I y5.2.1)],[(1010,.box 102 [.nptr false 1010 0,.sl 104851 0 y5.2.2.length]),(104851,.row 5 1 0 (F cU y5.2.2))],[]⟩) (fun q11=>(.exit 0,⟨[(0,S s),(10,.ptr 1010 0),(11,I q11.1)],[(1010,.box 102 [.nptr false 1010 0,.sl 104851 0 q11.2.length]),(104851,.row 5 1 0 (F cU q11.2))],[]⟩)) [(1010,1010),(104851,104851)] hB h (fun y5 t h=> ?_) (fun q11 h=> ?_)
   ·unfold ZT at h;refine z.b8.g ?_;refine zn h (fun _ h=> ?_) (fun _ h=> ?_)
    ·refine z.a.i.a4.g ?_;refine Zr h (fun v6 _ h=> ?_);refine l_move ?_;refine zm h (fun _=>strings_Index_ok) (fun v7 _ h=> ?_);refine z.a.p.d6.g ?_;refine Zr h (fun v8 _ h=> ?_);refine zi [(4000101,1010),(4000102,104851)] [1010,104851] h (fun _=>zj) (fun v9 _ h=> ?_);refine z.c8.g ?_;refine zi [(4000101,1010),(4000102,104851)] [1010,104851] h (fun _=>zj) (fun v10 _ h=> ?_);refine z.e1.c2.V.C.e.g ?_;exact zu [(1010,1010),(104851,104851)] hB h
    refine z.k.g ?_;exact zr [(1010,1010),(104851,104851)] hB h
   refine z.i.P.g ?_;refine Zr h (fun v12 _ h=> ?_);refine zi [(4000101,1010),(4000102,104851)] [1010,104851] h (fun _=>zj) (fun v13 _ h=> ?_);refine z.c.e.g ?_;refine zi [(6000101,1010),(6000102,104851)] [1010,104851] h (fun _=>zP) (fun v14 _ h=> ?_);refine z.l.g ?_;apply zb [] hB h
  refine z.b.g ?_;refine zi [(4000101,1010),(4000102,104851)] [1010,104851] h (fun _=>zj) (fun v15 _ h=> ?_);refine z.p0.S.c8.g ?_;refine zH (fun y16=>⟨[(0,S s),(2,S new),(10,.ptr 1010 0),(11,I y16.1),(77,I (w64 (v2-1))),(78,I y16.2.1)],[(1010,.box 102 [.nptr false 1010 0,.sl 104851 0 y16.2.2.length]),(104851,.row 5 1 0 (F cU y16.2.2))],[104851]⟩) (fun q22=>(.exit 2,⟨[(0,S s),(10,.ptr 1010 0),(11,I q22.1)],[(1010,.box 102 [.nptr false 1010 0,.sl 104851 0 q22.2.length]),(104851,.row 5 1 0 (F cU q22.2))],[104851]⟩)) [(1010,1010),(104851,104851)] hB h (fun y16 t h=> ?_) (fun q22 h=> ?_)
  ·unfold strings_Replace_b2 at h;refine z.b8.g ?_;refine zn h (fun _ h=> ?_) (fun _ h=> ?_)
   ·refine z.i.a4.g ?_;refine Zr h (fun v17 _ h=> ?_);refine zm h (fun _=>JT) (fun v18 _ h=> ?_);refine z.a.p.d6.p.M.g ?_;refine Zr h (fun v19 _ h=> ?_);refine zi [(4000101,1010),(4000102,104851)] [1010,104851] h (fun _=>zj) (fun v20 _ h=> ?_);refine z.c8.g ?_;refine zi [(4000101,1010),(4000102,104851)] [1010,104851] h (fun _=>zj) (fun v21 _ h=> ?_);refine z.e1.E.h.e.g ?_;exact zu [(1010,1010),(104851,104851)] hB h
   refine z.k.g ?_;exact zr [(1010,1010),(104851,104851)] hB h
  refine z.i.P.g ?_;refine Zr h (fun v23 _ h=> ?_);refine zi [(4000101,1010),(4000102,104851)] [1010,104851] h (fun _=>zj) (fun v24 _ h=> ?_);refine z.c.e.g ?_;refine zi [(6000101,1010),(6000102,104851)] [1010,104851] h (fun _=>zP) (fun v25 _ h=> ?_);refine z.l.g ?_;apply zb [] hB h
 refine z.d6.m7.S.V.a.V.j5.V.c8.f3.c.I.g ?_;refine l_npcell (b:=1010) (j:=0) 1010 0 ?_;refine zi [(1000101,1010),(1000151,104851)] [1010] h (fun _=>JX) (fun v26 _ h=> ?_);refine z.u.V.e9.e.g ?_;refine zn h (fun _ h=> ?_) (fun _ h=> ?_)
 ·refine z.l7.i.g ?_;refine zH (fun y27=>⟨[(0,S s),(1,S old),(2,S new),(10,.ptr 1010 0),(11,I y27.1),(52,I n),(53,I y27.2.1)],[(1010,.box 102 [.nptr false 1010 0,.sl 104851 0 y27.2.2.length]),(104851,.row 5 1 0 (F cU y27.2.2))],[]⟩) (fun q33=>(.exit 0,⟨[(0,S s),(10,.ptr 1010 0),(11,I q33.1)],[(1010,.box 102 [.nptr false 1010 0,.sl 104851 0 q33.2.length]),(104851,.row 5 1 0 (F cU q33.2))],[]⟩)) [(1010,1010),(104851,104851)] hB h (fun y27 t h=> ?_) (fun q33 h=> ?_)
  ·unfold strings_Replace_b3 at h;refine z.b8.g ?_;refine zn h (fun _ h=> ?_) (fun _ h=> ?_)
   ·refine z.a.i.a4.g ?_;refine Zr h (fun v28 _ h=> ?_);refine l_move ?_;refine zm h (fun _=>strings_Index_ok) (fun v29 _ h=> ?_);refine z.a.p.d6.g ?_;refine Zr h (fun v30 _ h=> ?_);refine zi [(4000101,1010),(4000102,104851)] [1010,104851] h (fun _=>zj) (fun v31 _ h=> ?_);refine z.c8.g ?_;refine zi [(4000101,1010),(4000102,104851)] [1010,104851] h (fun _=>zj) (fun v32 _ h=> ?_);refine z.e1.c2.V.C.e.g ?_;exact zu [(1010,1010),(104851,104851)] hB h
   refine z.k.g ?_;exact zr [(1010,1010),(104851,104851)] hB h
  refine z.i.P.g ?_;refine Zr h (fun v34 _ h=> ?_);refine zi [(4000101,1010),(4000102,104851)] [1010,104851] h (fun _=>zj) (fun v35 _ h=> ?_);refine z.c.e.g ?_;refine zi [(6000101,1010),(6000102,104851)] [1010,104851] h (fun _=>zP) (fun v36 _ h=> ?_);refine z.l.g ?_;apply zb [] hB h
 refine z.b.g ?_;refine zi [(4000101,1010),(4000102,104851)] [1010,104851] h (fun _=>zj) (fun v37 _ h=> ?_);refine z.p0.S.c8.g ?_;refine zH (fun y38=>⟨[(0,S s),(2,S new),(10,.ptr 1010 0),(11,I y38.1),(77,I (w64 (n-1))),(78,I y38.2.1)],[(1010,.box 102 [.nptr false 1010 0,.sl 104851 0 y38.2.2.length]),(104851,.row 5 1 0 (F cU y38.2.2))],[104851]⟩) (fun q44=>(.exit 2,⟨[(0,S s),(10,.ptr 1010 0),(11,I q44.1)],[(1010,.box 102 [.nptr false 1010 0,.sl 104851 0 q44.2.length]),(104851,.row 5 1 0 (F cU q44.2))],[104851]⟩)) [(1010,1010),(104851,104851)] hB h (fun y38 t h=> ?_) (fun q44 h=> ?_)
 ·unfold strings_Replace_b4 at h;refine z.b8.g ?_;refine zn h (fun _ h=> ?_) (fun _ h=> ?_)
  ·refine z.i.a4.g ?_;refine Zr h (fun v39 _ h=> ?_);refine zm h (fun _=>JT) (fun v40 _ h=> ?_);refine z.a.p.d6.p.M.g ?_;refine Zr h (fun v41 _ h=> ?_);refine zi [(4000101,1010),(4000102,104851)] [1010,104851] h (fun _=>zj) (fun v42 _ h=> ?_);refine z.c8.g ?_;refine zi [(4000101,1010),(4000102,104851)] [1010,104851] h (fun _=>zj) (fun v43 _ h=> ?_);refine z.e1.E.h.e.g ?_;exact zu [(1010,1010),(104851,104851)] hB h
  refine z.k.g ?_;exact zr [(1010,1010),(104851,104851)] hB h
 refine z.i.P.g ?_;refine Zr h (fun v45 _ h=> ?_);refine zi [(4000101,1010),(4000102,104851)] [1010,104851] h (fun _=>zj) (fun v46 _ h=> ?_);refine z.c.e.g ?_;refine zi [(6000101,1010),(6000102,104851)] [1010,104851] h (fun _=>zP) (fun v47 _ h=> ?_);refine z.l.g ?_;apply zb [] hB h
theorem strings_ReplaceAll_ok {s:Str}{old:Str}{new:Str}{r:Str}(h:Qw s old new=some r):XSpec Tryz.prog 98 [S s,S old,S new] [] (S r) [] []:=by
 unfold Qw at h;refine zd Tryz.hU Tryz.func98 (fun _ _ _ hB=> ?_);refine z.a.p.c.g ?_;refine zm h (fun _=>strings_Replace_ok) (fun v1 _ h=> ?_);refine z.l.g ?_;apply zb [] hB h
theorem chars_Lines_ok {s:Str}{r:Str}(h:chars_Lines s=some r):XSpec Tryz.prog 59 [S s] [] (S r) [] []:=by
 unfold chars_Lines at h;refine zd Tryz.hU Tryz.func59 (fun _ _ _ hB=> ?_);refine z.a8.g ?_;refine zm h (fun _=>strings_ReplaceAll_ok) (fun v1 _ h=> ?_);refine zm h (fun _=>strings_ReplaceAll_ok) (fun v2 _ h=> ?_);refine z.l.g ?_;apply zb [] hB h
theorem zaf {c:UInt8}{r:Bool}(h:QA c=some r):XSpec Tryz.prog 99 [U c] [] (B r) [] []:=by
 unfold QA at h;refine zd Tryz.hU Tryz.func99 (fun _ _ _ hB=> ?_);refine z.w.a8.g ?_;refine zc h (fun _ h=> ?_) (fun _ h=> ?_)
 ·refine z.b9.n.b3.n.b3.n.g ?_;apply zb [] hB h
 refine z.q.v.g ?_;refine zc h (fun _ h=> ?_) (fun _ h=> ?_)
 ·refine z.b9.n.b3.n.g ?_;apply zb [] hB h
 refine z.q.v.g ?_;refine zc h (fun _ h=> ?_) (fun _ h=> ?_)
 ·refine z.b9.n.g ?_;apply zb [] hB h
 refine z.c3.v.g ?_;apply zb [] hB h
theorem zad {s:Str}{prefix_:Str}{r:Bool}(h:Zg s prefix_=some r):XSpec Tryz.prog 158 [S s,S prefix_] [] (B r) [] []:=by
 unfold Zg at h;refine zd Tryz.hU Tryz.func158 (fun _ _ _ hB=> ?_);refine z.w.V.a.V.a8.g ?_;refine zc h (fun _ h=> ?_) (fun _ h=> ?_)
 ·refine z.b5.V.f.r.g ?_;refine Zr h (fun v1 _ h=> ?_);refine z.b9.W.f.g ?_;apply zb [] hB h
 refine z.c3.n.m.g ?_;apply zb [] hB h
theorem strings_HasPrefix_ok {s:Str}{prefix_:Str}{r:Bool}(h:Z7 s prefix_=some r):XSpec Tryz.prog 101 [S s,S prefix_] [] (B r) [] []:=by
 unfold Z7 at h;refine zd Tryz.hU Tryz.func101 (fun _ _ _ hB=> ?_);refine z.p.c.g ?_;refine zm h (fun _=>zad) (fun v1 _ h=> ?_);refine z.l.g ?_;apply zb [] hB h
theorem stringslite_CutPrefix_ok {s:Str}{prefix_:Str}{r:Str×Bool}(h:QG s prefix_=some r):XSpec Tryz.prog 197 [S s,S prefix_] [] (.tup [S r.1,B r.2]) [] []:=by
 unfold QG at h;refine zd Tryz.hU Tryz.func197 (fun _ _ _ hB=> ?_);refine z.i.b4.t.g ?_;refine zm h (fun _=>zad) (fun v1 _ h=> ?_);refine z.d3.g ?_;refine zn h (fun _ h=> ?_) (fun _ h=> ?_)
 ·refine z.e5.b.g ?_;apply zb [] hB h
 refine z.V.f0.g ?_;refine Zr h (fun v2 _ h=> ?_);refine z.a3.g ?_;apply zb [] hB h
theorem Z1 {s:Str}{prefix_:Str}{r:Str×Bool}(h:qE s prefix_=some r):XSpec Tryz.prog 144 [S s,S prefix_] [] (.tup [S r.1,B r.2]) [] []:=by
 unfold qE at h;refine zd Tryz.hU Tryz.func144 (fun _ _ _ hB=> ?_);refine z.p.t.g ?_;refine zm h (fun _=>stringslite_CutPrefix_ok) (fun v1 _ h=> ?_);refine z.a3.n1.g ?_;apply zb [] hB h
theorem ZK {s:Str}{substr:Str}{r:Bool}(h:qD s substr=some r):XSpec Tryz.prog 211 [S s,S substr] [] (B r) [] []:=by
 unfold qD at h;refine zd Tryz.hU Tryz.func211 (fun _ _ _ hB=> ?_);refine z.p.c.g ?_;refine zm h (fun _=>strings_Index_ok) (fun v1 _ h=> ?_);refine z.l.b7.g ?_;apply zb [] hB h
theorem stringslite_Cut_ok {s:Str}{sep:Str}{r:Str×Str×Bool}(h:zah s sep=some r):XSpec Tryz.prog 212 [S s,S sep] [] (.tup [S r.1,S r.2.1,B r.2.2]) [] []:=by
 unfold zah at h;refine zd Tryz.hU Tryz.func212 (fun _ _ _ hB=> ?_);refine z.i.b4.A.t.g ?_;refine zm h (fun _=>stringslite_Index_ok) (fun v1 _ h=> ?_);refine z.u.x.g ?_;refine zn h (fun _ h=> ?_) (fun _ h=> ?_)
 ·refine k_seq ?_;refine ZH [] (.q 0 (.q 1 (.q 2 (.q 3 (.q 4 (.q 5 (.q 6 (.q 7 (.q 8 (.q 9 (.q 10 (.q 11 .done)))))))))))) hm ?_;refine z.f9.g ?_;refine n_subs h (fun v2 _ h=> ?_);refine z.d.m6.d.s5.f9.e2.g ?_;refine n_subs h (fun v3 _ h=> ?_);refine z.n2.l5.j3.m1.d.m1.d.m1.d.g ?_;apply zb [] hB h
 refine z.a3.A.y.g ?_;apply zb [] hB h
theorem Zl {s:Str}{sep:Str}{r:Str×Str×Bool}(h:qw s sep=some r):XSpec Tryz.prog 161 [S s,S sep] [] (.tup [S r.1,S r.2.1,B r.2.2]) [] []:=by
 unfold qw at h;refine zd Tryz.hU Tryz.func161 (fun _ _ _ hB=> ?_);refine z.p.A.t.g ?_;refine zm h (fun _=>stringslite_Cut_ok) (fun v1 _ h=> ?_);refine z.a3.k6.n1.g ?_;apply zb [] hB h
theorem parse_fold_ok {s:Str}{r:Str}(h:parse_fold s=some r):XSpec Tryz.prog 160 [S s] [] (S r) [] []:=by
 unfold parse_fold at h;refine zd Tryz.hU Tryz.func160 (fun _ _ _ hB=> ?_);refine z.e6.G.o3.a8.g ?_;refine zH (fun y1=>⟨[(3,.sl 1007 0 y1.2.length),(8,.sl 1007 0 y1.2.length),(9,I (s.length:Int)),(10,I y1.1)],[(1007,.row 5 1 0 (F cU y1.2))],[]⟩) (fun q5=>(.exit 0,⟨[(3,.sl 1007 0 q5.length)],[(1007,.row 5 1 0 (F cU q5))],[]⟩)) [(1007,1007)] hB h (fun y1 t h=> ?_) (fun q5 h=> ?_)
 ·unfold QZ at h;refine z.b8.g ?_;refine zn h (fun _ h=> ?_) (fun _ h=> ?_)
  ·refine z.k7.g ?_;refine Jg h (fun v2 ev2 h=> ?_);refine Jc ev2 ?_;refine z.w.x.A.g ?_;refine zc h (fun _ h=> ?_) (fun _ h=> ?_)
   ·refine z.i2.v.g ?_;refine zn h (fun _ h=> ?_) (fun _ h=> ?_)
    ·refine z.a.C.g ?_;refine l_addU v2 97 ?_;refine l_subU (v2+97) 65 ?_;refine Jg h (fun v3 ev3 h=> ?_);refine l_put0 ev3 h (fun v4 ev4 h=> ?_);refine z.e1.d4.g ?_;refine qQ 3 v4.length ?_;refine qQ 8 v4.length ?_;exact zu [(1007,1007)] hB h
    refine z.e3.g ?_;exact zu [(1007,1007)] hB h
   refine z.e3.h8.n.g ?_;exact zu [(1007,1007)] hB h
  refine z.k.g ?_;exact zr [(1007,1007)] hB h
 refine z.l.p7.i9.g ?_;apply zb [] hB h
theorem name_in_ok {r_:Int}{l:(List zN)}{r:Bool}(h:name_in r_ l=some r):XSpec Tryz.prog 236 [.pl (.int .i32 r_),.vs l.length (F c_TSpan l)] [] (B r) [] []:=by
 unfold name_in at h;refine zd Tryz.hU Tryz.func236 (fun _ _ _ hB=> ?_);refine z.e6.e9.g ?_;refine zH (fun y1=>⟨[(0,.pl (.int .i32 r_)),(7,.vs l.length (F c_TSpan l)),(8,I (l.length:Int)),(9,I y1)],[],[]⟩) (Sum.elim (fun q3=>(.ret,⟨[(4,B true)],[],[]⟩)) (fun q4=>(.exit 0,⟨[],[],[]⟩))) [] hB h (fun y1 t h=> ?_) (fun q h=> ?_)
 ·unfold Js at h;refine z.b8.g ?_;refine zn h (fun _ h=> ?_) (fun _ h=> ?_)
  ·refine z.c.a4.g ?_;refine QH h (fun v2 _ h=> ?_);refine z.w.a2.b.f4.f3.d5.g ?_;refine zc h (fun _ h=> ?_) (fun _ h=> ?_)
   ·refine z.i2.b7.o4.f.g ?_;refine zn h (fun _ h=> ?_) (fun _ h=> ?_)
    ·refine z.j6.g ?_;exact zr [] hB h
    refine z.e3.g ?_;exact zu [] hB h
   refine z.e3.h8.m.g ?_;exact zu [] hB h
  refine z.k.g ?_;exact zr [] hB h
 rcases q with q3|q4
 ·dsimp only [Sum.elim] at h ⊢
  refine z.a1.g ?_;apply zb [] hB h
 dsimp only [Sum.elim] at h ⊢
 refine z.b2.P.g ?_;apply zb [] hB h
theorem name_Begins_ok {r_:Int}{r:Bool}(h:Ji r_=some r):XSpec Tryz.prog 195 [.pl (.int .i32 r_)] [] (B r) [] []:=by
 unfold Ji at h;refine zd Tryz.hU Tryz.func195 (fun _ _ _ hB=> ?_);refine z.w.a8.g ?_;refine zc h (fun _ h=> ?_) (fun _ h=> ?_)
 ·refine z.b9.c5.i4.i4.g ?_;apply zb [] hB h
 refine z.j7.j7.j7.j7.j7.j7.j7.j7.j7.j7.j7.j7.j7.j7.f.g ?_;refine QM (e:=c_TSpan) [(zN.mk 65 90),(zN.mk 97 122),(zN.mk 192 214),(zN.mk 216 246),(zN.mk 248 767),(zN.mk 880 893),(zN.mk 895 8191),(zN.mk 8204 8205),(zN.mk 8304 8591),(zN.mk 11264 12271),(zN.mk 12289 55295),(zN.mk 63744 64975),(zN.mk 65008 65533),(zN.mk 65536 983039)] ?_;refine l_on ?_;refine l_callB h (fun _=>name_in_ok) (fun v1 _ h=> ?_);refine z.c3.g ?_;apply zb [] hB h
theorem name_Stands_ok {r_:Int}{r:Bool}(h:Jk r_=some r):XSpec Tryz.prog 196 [.pl (.int .i32 r_)] [] (B r) [] []:=by
 unfold Jk at h;refine zd Tryz.hU Tryz.func196 (fun _ _ _ hB=> ?_);refine z.a8.g ?_;refine zm h (fun _=>name_Begins_ok) (fun v1 _ h=> ?_);refine l_move ?_;refine zc h (fun _ h=> ?_) (fun _ h=> ?_)
 ·refine z.b9.n.R.n.b3.n.b3.n.g ?_;apply zb [] hB h
 refine z.q.v.g ?_;refine zc h (fun _ h=> ?_) (fun _ h=> ?_)
 ·refine z.b9.n.R.n.b3.n.g ?_;apply zb [] hB h
 refine z.q.v.g ?_;refine zc h (fun _ h=> ?_) (fun _ h=> ?_)
 ·refine z.b9.n.R.n.g ?_;apply zb [] hB h
 refine z.q.v.g ?_;refine zc h (fun _ h=> ?_) (fun _ h=> ?_)
 ·refine z.b9.n.m.g ?_;apply zb [] hB h
 refine z.j7.j7.j7.f.g ?_;refine QM (e:=c_TSpan) [(zN.mk 48 57),(zN.mk 768 879),(zN.mk 8255 8256)] ?_;refine l_on ?_;refine l_callB h (fun _=>name_in_ok) (fun v2 _ h=> ?_);refine z.c3.g ?_;apply zb [] hB h
theorem ZU {s:Str}{r:Bool}(h:Z0 s=some r):XSpec Tryz.prog 143 [S s] [] (B r) [] []:=by
 unfold Z0 at h;refine zd Tryz.hU Tryz.func143 (fun _ _ _ hB=> ?_);refine z.o3.a8.g ?_;refine l_frz 1009 ?_;refine zi [(1,101001)] [] h (fun _=>utf_Chars_ok) (fun v1 _ h=> ?_);refine z.h0.G.M.g ?_;refine zc h (fun _ h=> ?_) (fun _ h=> ?_)
 ·refine z.a6.i5.c5.R.o.g ?_;apply zb [] hB h
 refine z.q.c6.N.f.g ?_;refine zc h (fun _ h=> ?_) (fun _ h=> ?_)
 ·refine z.a6.i5.c5.m.g ?_;apply zb [] hB h
 refine z.f.g ?_;refine Jg h (fun v2 ev2 h=> ?_);refine l_on ?_;refine Jc ev2 ?_;refine l_on ?_;refine zm h (fun _=>name_Begins_ok) (fun v3 _ h=> ?_);refine z.d7.Z.g ?_;refine zn h (fun _ h=> ?_) (fun _ h=> ?_)
 ·refine z.a6.g ?_;apply zb [] hB h
 refine z.e6.b.d8.g ?_;refine zH (fun y4=>⟨[(27,.sl 101001 0 v1.1.length),(28,I (v1.1.length:Int)),(29,I y4)],[(101001,.row 21 1 0 (F cR v1.1))],[]⟩) (Sum.elim (fun q7=>(.ret,⟨[(2,B false)],[],[]⟩)) (fun q8=>(.exit 0,⟨[],[],[]⟩))) [(101001,101001)] hB h (fun y4 t h=> ?_) (fun q h=> ?_)
 ·unfold QU at h;refine z.b8.g ?_;refine zn h (fun _ h=> ?_) (fun _ h=> ?_)
  ·refine z.c.a4.g ?_;refine Jg h (fun v5 ev5 h=> ?_);refine Jc ev5 ?_;refine z.x.g ?_;refine zm h (fun _=>name_Stands_ok) (fun v6 _ h=> ?_);refine z.d3.g ?_;refine zn h (fun _ h=> ?_) (fun _ h=> ?_)
   ·refine z.j6.g ?_;exact zr [] hB h
   refine z.e3.g ?_;exact zu [(101001,101001)] hB h
  refine z.k.g ?_;exact zr [] hB h
 rcases q with q7|q8
 ·dsimp only [Sum.elim] at h ⊢
  refine z.a1.g ?_;apply zb [] hB h
 dsimp only [Sum.elim] at h ⊢
 refine z.b2.P.g ?_;apply zb [] hB h
theorem name_Split_ok {s:Str}{r:Str×Str×Bool}(h:name_Split s=some r):XSpec Tryz.prog 165 [S s] [] (.tup [S r.1,S r.2.1,B r.2.2]) [] []:=by
 unfold name_Split at h;refine zd Tryz.hU Tryz.func165 (fun _ _ _ hB=> ?_);refine z.x.A.t.g ?_;refine zm h (fun _=>Zl) (fun v1 _ h=> ?_);refine z.d3.G.A.k6.k8.g ?_;refine zn h (fun _ h=> ?_) (fun _ h=> ?_)
 ·refine z.i.b4.A.h.g ?_;refine zc h (fun _ h=> ?_) (fun _ h=> ?_)
  ·refine z.f.g ?_;refine zm h (fun _=>ZU) (fun v2 _ h=> ?_);refine z.b3.Z.g ?_;refine zc h (fun _ h=> ?_) (fun _ h=> ?_)
   ·refine z.e5.t.i5.o.g ?_;apply zb [] hB h
   refine z.f.g ?_;refine zm h (fun _=>ZU) (fun v3 _ h=> ?_);refine z.d7.Z.g ?_;refine zn h (fun _ h=> ?_) (fun _ h=> ?_)
   ·refine z.e5.t.g ?_;apply zb [] hB h
   refine z.a3.A.f0.g ?_;apply zb [] hB h
  refine z.f.j8.g ?_;refine zm h (fun _=>ZU) (fun v4 _ h=> ?_);refine z.d7.Z.g ?_;refine zn h (fun _ h=> ?_) (fun _ h=> ?_)
  ·refine z.e5.t.g ?_;apply zb [] hB h
  refine z.a3.A.f0.g ?_;apply zb [] hB h
 refine z.i.d8.g ?_;refine zc h (fun _ h=> ?_) (fun _ h=> ?_)
 ·refine z.f.g ?_;refine zm h (fun _=>ZU) (fun v5 _ h=> ?_);refine z.b3.Z.g ?_;refine zc h (fun _ h=> ?_) (fun _ h=> ?_)
  ·refine z.e5.t.i5.o.g ?_;apply zb [] hB h
  refine z.f.g ?_;refine zm h (fun _=>ZU) (fun v6 _ h=> ?_);refine z.d7.Z.g ?_;refine zn h (fun _ h=> ?_) (fun _ h=> ?_)
  ·refine z.e5.t.g ?_;apply zb [] hB h
  refine z.a3.A.f0.g ?_;apply zb [] hB h
 refine z.f.j8.g ?_;refine zm h (fun _=>ZU) (fun v7 _ h=> ?_);refine z.d7.Z.g ?_;refine zn h (fun _ h=> ?_) (fun _ h=> ?_)
 ·refine z.e5.t.g ?_;apply zb [] hB h
 refine z.a3.A.f0.g ?_;apply zb [] hB h
theorem atomic_b32_ok {b:Bool}{r:Int}(h:atomic_b32 b=some r):XSpec Tryz.prog 289 [B b] [] (.pl (.int .u32 r)) [] []:=by
 unfold atomic_b32 at h;refine zd Tryz.hU Tryz.func289 (fun _ _ _ hB=> ?_);refine z.e.e9.g ?_;refine zn h (fun _ h=> ?_) (fun _ h=> ?_)
 ·refine z.a6.g ?_;apply zb [] hB h
 refine z.b2.I.g ?_;apply zb [] hB h
theorem chars_named_ok {s:Str}{r:Str×Bool}(h:chars_named s=some r):XSpec Tryz.prog 266 [S s] [] (.tup [S r.1,B r.2]) [] []:=by
 unfold chars_named at h;refine zd Tryz.hU Tryz.func266 (fun _ _ _ hB=> ?_);refine z.j.W.c.l7.G.t.g ?_;refine zn h (fun _ h=> ?_) (fun _ h=> ?_)
 ·refine z.F.t.g ?_;apply zb [] hB h
 refine z.j.W.c.g ?_;refine zn h (fun _ h=> ?_) (fun _ h=> ?_)
 ·refine z.F.t.g ?_;apply zb [] hB h
 refine z.j.W.c.g ?_;refine zn h (fun _ h=> ?_) (fun _ h=> ?_)
 ·refine z.F.t.g ?_;apply zb [] hB h
 refine z.j.W.c.g ?_;refine zn h (fun _ h=> ?_) (fun _ h=> ?_)
 ·refine z.F.t.g ?_;apply zb [] hB h
 refine z.j.W.c.g ?_;refine zn h (fun _ h=> ?_) (fun _ h=> ?_)
 ·refine z.F.t.g ?_;apply zb [] hB h
 refine z.l.t.h1.Y.g ?_;apply zb [] hB h
end Go.Proofs.YtojbjdcflgeibaaGreatDoor
