/-
  WALKS, printed by aw.py: that the program's functions compute the plain ones. Conditions: none.
-/
import Derived.Test.YtojbjdcflgeibaaGreatDoorProg
import Derived.Test.YtojbjdcflgeibaaGreatDoorAbsM2
import Derived.Test.YtojbjdcflgeibaaGreatDoorAbsM3
import Derived.Test.YtojbjdcflgeibaaGreatDoorQPure
import Derived.Test.YtojbjdcflgeibaaGreatDoorLQWalk
import Derived.Test.YtojbjdcflgeibaaGreatDoorIQWalk
set_option linter.unusedVariables false
set_option linter.unusedSimpArgs false
set_option maxRecDepth 20000
set_option maxHeartbeats 4000000
namespace Go.Proofs.YtojbjdcflgeibaaGreatDoor
open Go Go.Abs W G
instance :GTab:=⟨[(0,(utf8First.flatMap (fun x:UInt8=>[Value.int .u8 (x.toNat:Int)]))),(1,(utf8Ranges.flatMap (fun x:Jn=>[Value.int .u8 (x.lo.toNat:Int),Value.int .u8 (x.hi.toNat:Int)])))],[2],fun t=>Nat.beq t 5||Nat.beq t 6||Nat.beq t 318||Nat.beq t 319⟩
def Tryz.U:List (Nat×TI):=[
  (1,⟨.func #[] #[] false,1,8,.nilFunc⟩),
  (3,⟨.int .i64,1,8,.int .i64 0⟩),
  (4,⟨.bool,1,1,.bool false⟩),
  (5,⟨.int .u8,1,1,.int .u8 0⟩),
  (9,⟨.string,1,16,.string ⟨#[]⟩⟩),
  (12,⟨.int .u64,1,8,.int .u64 0⟩),
  (21,⟨.int .i32,1,4,.int .i32 0⟩),
  (22,⟨.slice 5,1,24,.slice none 0 0⟩),
  (24,⟨.pointer 111,1,8,.pointer none⟩),
  (25,⟨.int .i64,1,8,.int .i64 0⟩),
  (29,⟨.slice 3,1,24,.slice none 0 0⟩),
  (33,⟨.slice 48,1,24,.slice none 0 0⟩),
  (36,⟨.slice 39,1,24,.slice none 0 0⟩),
  (39,⟨.struct #[{name:= "Prefix",type:=9,offset:=0,embedded:=false,tag:= "",pkgPath:= "",byteOffset:=0},{name:= "URI",type:=9,offset:=1,embedded:=false,tag:= "",pkgPath:= "",byteOffset:=16}],2,32,.agg #[.string ⟨#[]⟩,.string ⟨#[]⟩]⟩),
  (46,⟨.slice 126,1,24,.slice none 0 0⟩),
  (48,⟨.struct #[{name:= "Kind",type:=3,offset:=0,embedded:=false,tag:= "",pkgPath:= "",byteOffset:=0},{name:= "Parent",type:=3,offset:=1,embedded:=false,tag:= "",pkgPath:= "",byteOffset:=8},{name:= "Prefix",type:=9,offset:=2,embedded:=false,tag:= "",pkgPath:= "",byteOffset:=16},{name:= "Local",type:=9,offset:=3,embedded:=false,tag:= "",pkgPath:= "",byteOffset:=32},{name:= "URI",type:=9,offset:=4,embedded:=false,tag:= "",pkgPath:= "",byteOffset:=48},{name:= "Text",type:=9,offset:=5,embedded:=false,tag:= "",pkgPath:= "",byteOffset:=64},{name:= "Decls",type:=36,offset:=6,embedded:=false,tag:= "",pkgPath:= "",byteOffset:=80},{name:= "Attrs",type:=46,offset:=7,embedded:=false,tag:= "",pkgPath:= "",byteOffset:=104}],8,128,.agg #[.int .i64 0,.int .i64 0,.string ⟨#[]⟩,.string ⟨#[]⟩,.string ⟨#[]⟩,.string ⟨#[]⟩,.slice none 0 0,.slice none 0 0]⟩),
  (51,⟨.slice 54,1,24,.slice none 0 0⟩),
  (54,⟨.struct #[{name:= "N",type:=3,offset:=0,embedded:=false,tag:= "",pkgPath:= "",byteOffset:=0},{name:= "Part",type:=3,offset:=1,embedded:=false,tag:= "",pkgPath:= "",byteOffset:=8},{name:= "I",type:=3,offset:=2,embedded:=false,tag:= "",pkgPath:= "",byteOffset:=16}],3,24,.agg #[.int .i64 0,.int .i64 0,.int .i64 0]⟩),
  (72,⟨.pointer 86,1,8,.pointer none⟩),
  (84,⟨.map 9 3,1,8,.map none⟩),
  (86,⟨.struct #[{name:= "Doc",type:=24,offset:=0,embedded:=true,tag:= "",pkgPath:= "",byteOffset:=0},{name:= "ids",type:=84,offset:=1,embedded:=false,tag:= "",pkgPath:= "apostille/ident",byteOffset:=8}],2,16,.agg #[.pointer none,.map none]⟩),
  (91,⟨.array 2 3,2,16,.agg #[.int .i64 0,.int .i64 0]⟩),
  (92,⟨.slice 91,1,24,.slice none 0 0⟩),
  (97,⟨.pointer 104,1,8,.pointer none⟩),
  (98,⟨.func #[9] #[9] false,1,8,.nilFunc⟩),
  (99,⟨.slice 194,1,24,.slice none 0 0⟩),
  (100,⟨.pointer 102,1,8,.pointer none⟩),
  (102,⟨.struct #[{name:= "addr",type:=100,offset:=0,embedded:=false,tag:= "",pkgPath:= "strings",byteOffset:=0},{name:= "buf",type:=22,offset:=1,embedded:=false,tag:= "",pkgPath:= "strings",byteOffset:=8}],2,32,.agg #[.pointer none,.slice none 0 0]⟩),
  (104,⟨.struct #[{name:= "s",type:=9,offset:=0,embedded:=false,tag:= "",pkgPath:= "apostille/parse",byteOffset:=0},{name:= "l",type:=33,offset:=1,embedded:=false,tag:= "",pkgPath:= "apostille/parse",byteOffset:=16},{name:= "path",type:=99,offset:=2,embedded:=false,tag:= "",pkgPath:= "apostille/parse",byteOffset:=40},{name:= "text",type:=102,offset:=3,embedded:=false,tag:= "",pkgPath:= "apostille/parse",byteOffset:=64},{name:= "top",type:=4,offset:=5,embedded:=false,tag:= "",pkgPath:= "apostille/parse",byteOffset:=96}],6,104,.agg #[.string ⟨#[]⟩,.slice none 0 0,.slice none 0 0,.pointer none,.slice none 0 0,.bool false]⟩),
  (107,⟨.struct #[{name:= "a",type:=24,offset:=0,embedded:=false,tag:= "",pkgPath:= "apostille/alike",byteOffset:=0},{name:= "b",type:=24,offset:=1,embedded:=false,tag:= "",pkgPath:= "apostille/alike",byteOffset:=8},{name:= "comments",type:=4,offset:=2,embedded:=false,tag:= "",pkgPath:= "apostille/alike",byteOffset:=16}],3,24,.agg #[.pointer none,.pointer none,.bool false]⟩),
  (109,⟨.func #[3] #[4] false,1,8,.nilFunc⟩),
  (111,⟨.struct #[{name:= "l",type:=33,offset:=0,embedded:=false,tag:= "",pkgPath:= "apostille/doc",byteOffset:=0},{name:= "end",type:=29,offset:=1,embedded:=false,tag:= "",pkgPath:= "apostille/doc",byteOffset:=24},{name:= "top",type:=3,offset:=2,embedded:=false,tag:= "",pkgPath:= "apostille/doc",byteOffset:=48}],3,56,.agg #[.slice none 0 0,.slice none 0 0,.int .i64 0]⟩),
  (112,⟨.pointer 114,1,8,.pointer none⟩),
  (114,⟨.struct #[{name:= "S",type:=9,offset:=0,embedded:=false,tag:= "",pkgPath:= "",byteOffset:=0},{name:= "At",type:=3,offset:=1,embedded:=false,tag:= "",pkgPath:= "",byteOffset:=16},{name:= "L",type:=33,offset:=2,embedded:=false,tag:= "",pkgPath:= "",byteOffset:=24},{name:= "Bad",type:=4,offset:=3,embedded:=false,tag:= "",pkgPath:= "",byteOffset:=48}],4,56,.agg #[.string ⟨#[]⟩,.int .i64 0,.slice none 0 0,.bool false]⟩),
  (117,⟨.slice 9,1,24,.slice none 0 0⟩),
  (120,⟨.map 9 4,1,8,.map none⟩),
  (126,⟨.struct #[{name:= "Prefix",type:=9,offset:=0,embedded:=false,tag:= "",pkgPath:= "",byteOffset:=0},{name:= "Local",type:=9,offset:=1,embedded:=false,tag:= "",pkgPath:= "",byteOffset:=16},{name:= "URI",type:=9,offset:=2,embedded:=false,tag:= "",pkgPath:= "",byteOffset:=32},{name:= "Value",type:=9,offset:=3,embedded:=false,tag:= "",pkgPath:= "",byteOffset:=48}],4,64,.agg #[.string ⟨#[]⟩,.string ⟨#[]⟩,.string ⟨#[]⟩,.string ⟨#[]⟩]⟩),
  (146,⟨.slice 21,1,24,.slice none 0 0⟩),
  (164,⟨.pointer 48,1,8,.pointer none⟩),
  (172,⟨.func #[39,39] #[3] false,1,8,.nilFunc⟩),
  (174,⟨.pointer 5,1,8,.pointer none⟩),
  (175,⟨.func #[126] #[4] false,1,8,.nilFunc⟩),
  (194,⟨.struct #[{name:= "n",type:=3,offset:=0,embedded:=false,tag:= "",pkgPath:= "apostille/parse",byteOffset:=0},{name:= "name",type:=9,offset:=1,embedded:=false,tag:= "",pkgPath:= "apostille/parse",byteOffset:=8}],2,24,.agg #[.int .i64 0,.string ⟨#[]⟩]⟩),
  (203,⟨.slice 205,1,24,.slice none 0 0⟩),
  (205,⟨.struct #[{name:= "n",type:=3,offset:=0,embedded:=false,tag:= "",pkgPath:= "apostille/alike",byteOffset:=0},{name:= "text",type:=9,offset:=1,embedded:=false,tag:= "",pkgPath:= "apostille/alike",byteOffset:=8},{name:= "is",type:=4,offset:=2,embedded:=false,tag:= "",pkgPath:= "apostille/alike",byteOffset:=24}],3,32,.agg #[.int .i64 0,.string ⟨#[]⟩,.bool false]⟩),
  (207,⟨.func #[205,205] #[4] false,1,8,.nilFunc⟩),
  (210,⟨.unsafePointer,1,8,.pointer none⟩),
  (222,⟨.func #[39] #[4] false,1,8,.nilFunc⟩),
  (228,⟨.struct #[{name:= "from",type:=21,offset:=0,embedded:=false,tag:= "",pkgPath:= "apostille/name",byteOffset:=0},{name:= "to",type:=21,offset:=1,embedded:=false,tag:= "",pkgPath:= "apostille/name",byteOffset:=4}],2,8,.agg #[.int .i32 0,.int .i32 0]⟩),
  (233,⟨.array 256 5,256,256,.agg #[.int .u8 0,.int .u8 0,.int .u8 0,.int .u8 0,.int .u8 0,.int .u8 0,.int .u8 0,.int .u8 0,.int .u8 0,.int .u8 0,.int .u8 0,.int .u8 0,.int .u8 0,.int .u8 0,.int .u8 0,.int .u8 0,.int .u8 0,.int .u8 0,.int .u8 0,.int .u8 0,.int .u8 0,.int .u8 0,.int .u8 0,.int .u8 0,.int .u8 0,.int .u8 0,.int .u8 0,.int .u8 0,.int .u8 0,.int .u8 0,.int .u8 0,.int .u8 0,.int .u8 0,.int .u8 0,.int .u8 0,.int .u8 0,.int .u8 0,.int .u8 0,.int .u8 0,.int .u8 0,.int .u8 0,.int .u8 0,.int .u8 0,.int .u8 0,.int .u8 0,.int .u8 0,.int .u8 0,.int .u8 0,.int .u8 0,.int .u8 0,.int .u8 0,.int .u8 0,.int .u8 0,.int .u8 0,.int .u8 0,.int .u8 0,.int .u8 0,.int .u8 0,.int .u8 0,.int .u8 0,.int .u8 0,.int .u8 0,.int .u8 0,.int .u8 0,.int .u8 0,.int .u8 0,.int .u8 0,.int .u8 0,.int .u8 0,.int .u8 0,.int .u8 0,.int .u8 0,.int .u8 0,.int .u8 0,.int .u8 0,.int .u8 0,.int .u8 0,.int .u8 0,.int .u8 0,.int .u8 0,.int .u8 0,.int .u8 0,.int .u8 0,.int .u8 0,.int .u8 0,.int .u8 0,.int .u8 0,.int .u8 0,.int .u8 0,.int .u8 0,.int .u8 0,.int .u8 0,.int .u8 0,.int .u8 0,.int .u8 0,.int .u8 0,.int .u8 0,.int .u8 0,.int .u8 0,.int .u8 0,.int .u8 0,.int .u8 0,.int .u8 0,.int .u8 0,.int .u8 0,.int .u8 0,.int .u8 0,.int .u8 0,.int .u8 0,.int .u8 0,.int .u8 0,.int .u8 0,.int .u8 0,.int .u8 0,.int .u8 0,.int .u8 0,.int .u8 0,.int .u8 0,.int .u8 0,.int .u8 0,.int .u8 0,.int .u8 0,.int .u8 0,.int .u8 0,.int .u8 0,.int .u8 0,.int .u8 0,.int .u8 0,.int .u8 0,.int .u8 0,.int .u8 0,.int .u8 0,.int .u8 0,.int .u8 0,.int .u8 0,.int .u8 0,.int .u8 0,.int .u8 0,.int .u8 0,.int .u8 0,.int .u8 0,.int .u8 0,.int .u8 0,.int .u8 0,.int .u8 0,.int .u8 0,.int .u8 0,.int .u8 0,.int .u8 0,.int .u8 0,.int .u8 0,.int .u8 0,.int .u8 0,.int .u8 0,.int .u8 0,.int .u8 0,.int .u8 0,.int .u8 0,.int .u8 0,.int .u8 0,.int .u8 0,.int .u8 0,.int .u8 0,.int .u8 0,.int .u8 0,.int .u8 0,.int .u8 0,.int .u8 0,.int .u8 0,.int .u8 0,.int .u8 0,.int .u8 0,.int .u8 0,.int .u8 0,.int .u8 0,.int .u8 0,.int .u8 0,.int .u8 0,.int .u8 0,.int .u8 0,.int .u8 0,.int .u8 0,.int .u8 0,.int .u8 0,.int .u8 0,.int .u8 0,.int .u8 0,.int .u8 0,.int .u8 0,.int .u8 0,.int .u8 0,.int .u8 0,.int .u8 0,.int .u8 0,.int .u8 0,.int .u8 0,.int .u8 0,.int .u8 0,.int .u8 0,.int .u8 0,.int .u8 0,.int .u8 0,.int .u8 0,.int .u8 0,.int .u8 0,.int .u8 0,.int .u8 0,.int .u8 0,.int .u8 0,.int .u8 0,.int .u8 0,.int .u8 0,.int .u8 0,.int .u8 0,.int .u8 0,.int .u8 0,.int .u8 0,.int .u8 0,.int .u8 0,.int .u8 0,.int .u8 0,.int .u8 0,.int .u8 0,.int .u8 0,.int .u8 0,.int .u8 0,.int .u8 0,.int .u8 0,.int .u8 0,.int .u8 0,.int .u8 0,.int .u8 0,.int .u8 0,.int .u8 0,.int .u8 0,.int .u8 0,.int .u8 0,.int .u8 0,.int .u8 0,.int .u8 0,.int .u8 0,.int .u8 0,.int .u8 0,.int .u8 0,.int .u8 0,.int .u8 0,.int .u8 0,.int .u8 0,.int .u8 0,.int .u8 0,.int .u8 0,.int .u8 0,.int .u8 0,.int .u8 0,.int .u8 0,.int .u8 0]⟩),
  (235,⟨.struct #[{name:= "lo",type:=5,offset:=0,embedded:=false,tag:= "",pkgPath:= "unicode/utf8",byteOffset:=0},{name:= "hi",type:=5,offset:=1,embedded:=false,tag:= "",pkgPath:= "unicode/utf8",byteOffset:=1}],2,2,.agg #[.int .u8 0,.int .u8 0]⟩),
  (236,⟨.array 16 235,32,32,.agg #[.int .u8 0,.int .u8 0,.int .u8 0,.int .u8 0,.int .u8 0,.int .u8 0,.int .u8 0,.int .u8 0,.int .u8 0,.int .u8 0,.int .u8 0,.int .u8 0,.int .u8 0,.int .u8 0,.int .u8 0,.int .u8 0,.int .u8 0,.int .u8 0,.int .u8 0,.int .u8 0,.int .u8 0,.int .u8 0,.int .u8 0,.int .u8 0,.int .u8 0,.int .u8 0,.int .u8 0,.int .u8 0,.int .u8 0,.int .u8 0,.int .u8 0,.int .u8 0]⟩),
  (237,⟨.int .u64,1,8,.int .u64 0⟩),
  (238,⟨.pointer 260,1,8,.pointer none⟩),
  (242,⟨.int .u32,1,4,.int .u32 0⟩),
  (243,⟨.slice 228,1,24,.slice none 0 0⟩),
  (244,⟨.int .u64,1,8,.int .u64 0⟩),
  (247,⟨.struct #[],0,0,.agg #[]⟩),
  (248,⟨.struct #[],0,0,.agg #[]⟩),
  (250,⟨.struct #[{name:= "_",type:=248,offset:=0,embedded:=false,tag:= "",pkgPath:= "sync/atomic",byteOffset:=0},{name:= "v",type:=242,offset:=0,embedded:=false,tag:= "",pkgPath:= "sync/atomic",byteOffset:=0}],1,4,.agg #[.int .u32 0]⟩),
  (252,⟨.struct #[{name:= "state",type:=21,offset:=0,embedded:=false,tag:= "",pkgPath:= "internal/sync",byteOffset:=0},{name:= "sema",type:=242,offset:=1,embedded:=false,tag:= "",pkgPath:= "internal/sync",byteOffset:=4}],2,8,.agg #[.int .i32 0,.int .u32 0]⟩),
  (254,⟨.struct #[{name:= "_",type:=247,offset:=0,embedded:=false,tag:= "",pkgPath:= "sync",byteOffset:=0},{name:= "mu",type:=252,offset:=0,embedded:=false,tag:= "",pkgPath:= "sync",byteOffset:=0}],2,8,.agg #[.int .i32 0,.int .u32 0]⟩),
  (256,⟨.struct #[{name:= "_",type:=247,offset:=0,embedded:=false,tag:= "",pkgPath:= "sync",byteOffset:=0},{name:= "done",type:=250,offset:=0,embedded:=false,tag:= "",pkgPath:= "sync",byteOffset:=0},{name:= "m",type:=254,offset:=1,embedded:=false,tag:= "",pkgPath:= "sync",byteOffset:=4}],3,12,.agg #[.int .u32 0,.int .i32 0,.int .u32 0]⟩),
  (258,⟨.interface #[("Replace",98),("WriteString",325)],1,16,.nilIface⟩),
  (260,⟨.struct #[{name:= "once",type:=256,offset:=0,embedded:=false,tag:= "",pkgPath:= "strings",byteOffset:=0},{name:= "r",type:=258,offset:=3,embedded:=false,tag:= "",pkgPath:= "strings",byteOffset:=16},{name:= "oldnew",type:=117,offset:=4,embedded:=false,tag:= "",pkgPath:= "strings",byteOffset:=32}],5,56,.agg #[.int .u32 0,.int .i32 0,.int .u32 0,.nilIface,.slice none 0 0]⟩),
  (271,⟨.pointer 256,1,8,.pointer none⟩),
  (276,⟨.pointer 242,1,8,.pointer none⟩),
  (278,⟨.pointer 294,1,8,.pointer none⟩),
  (280,⟨.pointer 300,1,8,.pointer none⟩),
  (282,⟨.array 256 5,256,256,.agg #[.int .u8 0,.int .u8 0,.int .u8 0,.int .u8 0,.int .u8 0,.int .u8 0,.int .u8 0,.int .u8 0,.int .u8 0,.int .u8 0,.int .u8 0,.int .u8 0,.int .u8 0,.int .u8 0,.int .u8 0,.int .u8 0,.int .u8 0,.int .u8 0,.int .u8 0,.int .u8 0,.int .u8 0,.int .u8 0,.int .u8 0,.int .u8 0,.int .u8 0,.int .u8 0,.int .u8 0,.int .u8 0,.int .u8 0,.int .u8 0,.int .u8 0,.int .u8 0,.int .u8 0,.int .u8 0,.int .u8 0,.int .u8 0,.int .u8 0,.int .u8 0,.int .u8 0,.int .u8 0,.int .u8 0,.int .u8 0,.int .u8 0,.int .u8 0,.int .u8 0,.int .u8 0,.int .u8 0,.int .u8 0,.int .u8 0,.int .u8 0,.int .u8 0,.int .u8 0,.int .u8 0,.int .u8 0,.int .u8 0,.int .u8 0,.int .u8 0,.int .u8 0,.int .u8 0,.int .u8 0,.int .u8 0,.int .u8 0,.int .u8 0,.int .u8 0,.int .u8 0,.int .u8 0,.int .u8 0,.int .u8 0,.int .u8 0,.int .u8 0,.int .u8 0,.int .u8 0,.int .u8 0,.int .u8 0,.int .u8 0,.int .u8 0,.int .u8 0,.int .u8 0,.int .u8 0,.int .u8 0,.int .u8 0,.int .u8 0,.int .u8 0,.int .u8 0,.int .u8 0,.int .u8 0,.int .u8 0,.int .u8 0,.int .u8 0,.int .u8 0,.int .u8 0,.int .u8 0,.int .u8 0,.int .u8 0,.int .u8 0,.int .u8 0,.int .u8 0,.int .u8 0,.int .u8 0,.int .u8 0,.int .u8 0,.int .u8 0,.int .u8 0,.int .u8 0,.int .u8 0,.int .u8 0,.int .u8 0,.int .u8 0,.int .u8 0,.int .u8 0,.int .u8 0,.int .u8 0,.int .u8 0,.int .u8 0,.int .u8 0,.int .u8 0,.int .u8 0,.int .u8 0,.int .u8 0,.int .u8 0,.int .u8 0,.int .u8 0,.int .u8 0,.int .u8 0,.int .u8 0,.int .u8 0,.int .u8 0,.int .u8 0,.int .u8 0,.int .u8 0,.int .u8 0,.int .u8 0,.int .u8 0,.int .u8 0,.int .u8 0,.int .u8 0,.int .u8 0,.int .u8 0,.int .u8 0,.int .u8 0,.int .u8 0,.int .u8 0,.int .u8 0,.int .u8 0,.int .u8 0,.int .u8 0,.int .u8 0,.int .u8 0,.int .u8 0,.int .u8 0,.int .u8 0,.int .u8 0,.int .u8 0,.int .u8 0,.int .u8 0,.int .u8 0,.int .u8 0,.int .u8 0,.int .u8 0,.int .u8 0,.int .u8 0,.int .u8 0,.int .u8 0,.int .u8 0,.int .u8 0,.int .u8 0,.int .u8 0,.int .u8 0,.int .u8 0,.int .u8 0,.int .u8 0,.int .u8 0,.int .u8 0,.int .u8 0,.int .u8 0,.int .u8 0,.int .u8 0,.int .u8 0,.int .u8 0,.int .u8 0,.int .u8 0,.int .u8 0,.int .u8 0,.int .u8 0,.int .u8 0,.int .u8 0,.int .u8 0,.int .u8 0,.int .u8 0,.int .u8 0,.int .u8 0,.int .u8 0,.int .u8 0,.int .u8 0,.int .u8 0,.int .u8 0,.int .u8 0,.int .u8 0,.int .u8 0,.int .u8 0,.int .u8 0,.int .u8 0,.int .u8 0,.int .u8 0,.int .u8 0,.int .u8 0,.int .u8 0,.int .u8 0,.int .u8 0,.int .u8 0,.int .u8 0,.int .u8 0,.int .u8 0,.int .u8 0,.int .u8 0,.int .u8 0,.int .u8 0,.int .u8 0,.int .u8 0,.int .u8 0,.int .u8 0,.int .u8 0,.int .u8 0,.int .u8 0,.int .u8 0,.int .u8 0,.int .u8 0,.int .u8 0,.int .u8 0,.int .u8 0,.int .u8 0,.int .u8 0,.int .u8 0,.int .u8 0,.int .u8 0,.int .u8 0,.int .u8 0,.int .u8 0,.int .u8 0,.int .u8 0,.int .u8 0,.int .u8 0,.int .u8 0,.int .u8 0,.int .u8 0,.int .u8 0,.int .u8 0,.int .u8 0,.int .u8 0,.int .u8 0,.int .u8 0,.int .u8 0,.int .u8 0,.int .u8 0,.int .u8 0,.int .u8 0]⟩),
  (283,⟨.pointer 282,1,8,.pointer none⟩),
  (284,⟨.array 256 22,256,6144,.agg #[.slice none 0 0,.slice none 0 0,.slice none 0 0,.slice none 0 0,.slice none 0 0,.slice none 0 0,.slice none 0 0,.slice none 0 0,.slice none 0 0,.slice none 0 0,.slice none 0 0,.slice none 0 0,.slice none 0 0,.slice none 0 0,.slice none 0 0,.slice none 0 0,.slice none 0 0,.slice none 0 0,.slice none 0 0,.slice none 0 0,.slice none 0 0,.slice none 0 0,.slice none 0 0,.slice none 0 0,.slice none 0 0,.slice none 0 0,.slice none 0 0,.slice none 0 0,.slice none 0 0,.slice none 0 0,.slice none 0 0,.slice none 0 0,.slice none 0 0,.slice none 0 0,.slice none 0 0,.slice none 0 0,.slice none 0 0,.slice none 0 0,.slice none 0 0,.slice none 0 0,.slice none 0 0,.slice none 0 0,.slice none 0 0,.slice none 0 0,.slice none 0 0,.slice none 0 0,.slice none 0 0,.slice none 0 0,.slice none 0 0,.slice none 0 0,.slice none 0 0,.slice none 0 0,.slice none 0 0,.slice none 0 0,.slice none 0 0,.slice none 0 0,.slice none 0 0,.slice none 0 0,.slice none 0 0,.slice none 0 0,.slice none 0 0,.slice none 0 0,.slice none 0 0,.slice none 0 0,.slice none 0 0,.slice none 0 0,.slice none 0 0,.slice none 0 0,.slice none 0 0,.slice none 0 0,.slice none 0 0,.slice none 0 0,.slice none 0 0,.slice none 0 0,.slice none 0 0,.slice none 0 0,.slice none 0 0,.slice none 0 0,.slice none 0 0,.slice none 0 0,.slice none 0 0,.slice none 0 0,.slice none 0 0,.slice none 0 0,.slice none 0 0,.slice none 0 0,.slice none 0 0,.slice none 0 0,.slice none 0 0,.slice none 0 0,.slice none 0 0,.slice none 0 0,.slice none 0 0,.slice none 0 0,.slice none 0 0,.slice none 0 0,.slice none 0 0,.slice none 0 0,.slice none 0 0,.slice none 0 0,.slice none 0 0,.slice none 0 0,.slice none 0 0,.slice none 0 0,.slice none 0 0,.slice none 0 0,.slice none 0 0,.slice none 0 0,.slice none 0 0,.slice none 0 0,.slice none 0 0,.slice none 0 0,.slice none 0 0,.slice none 0 0,.slice none 0 0,.slice none 0 0,.slice none 0 0,.slice none 0 0,.slice none 0 0,.slice none 0 0,.slice none 0 0,.slice none 0 0,.slice none 0 0,.slice none 0 0,.slice none 0 0,.slice none 0 0,.slice none 0 0,.slice none 0 0,.slice none 0 0,.slice none 0 0,.slice none 0 0,.slice none 0 0,.slice none 0 0,.slice none 0 0,.slice none 0 0,.slice none 0 0,.slice none 0 0,.slice none 0 0,.slice none 0 0,.slice none 0 0,.slice none 0 0,.slice none 0 0,.slice none 0 0,.slice none 0 0,.slice none 0 0,.slice none 0 0,.slice none 0 0,.slice none 0 0,.slice none 0 0,.slice none 0 0,.slice none 0 0,.slice none 0 0,.slice none 0 0,.slice none 0 0,.slice none 0 0,.slice none 0 0,.slice none 0 0,.slice none 0 0,.slice none 0 0,.slice none 0 0,.slice none 0 0,.slice none 0 0,.slice none 0 0,.slice none 0 0,.slice none 0 0,.slice none 0 0,.slice none 0 0,.slice none 0 0,.slice none 0 0,.slice none 0 0,.slice none 0 0,.slice none 0 0,.slice none 0 0,.slice none 0 0,.slice none 0 0,.slice none 0 0,.slice none 0 0,.slice none 0 0,.slice none 0 0,.slice none 0 0,.slice none 0 0,.slice none 0 0,.slice none 0 0,.slice none 0 0,.slice none 0 0,.slice none 0 0,.slice none 0 0,.slice none 0 0,.slice none 0 0,.slice none 0 0,.slice none 0 0,.slice none 0 0,.slice none 0 0,.slice none 0 0,.slice none 0 0,.slice none 0 0,.slice none 0 0,.slice none 0 0,.slice none 0 0,.slice none 0 0,.slice none 0 0,.slice none 0 0,.slice none 0 0,.slice none 0 0,.slice none 0 0,.slice none 0 0,.slice none 0 0,.slice none 0 0,.slice none 0 0,.slice none 0 0,.slice none 0 0,.slice none 0 0,.slice none 0 0,.slice none 0 0,.slice none 0 0,.slice none 0 0,.slice none 0 0,.slice none 0 0,.slice none 0 0,.slice none 0 0,.slice none 0 0,.slice none 0 0,.slice none 0 0,.slice none 0 0,.slice none 0 0,.slice none 0 0,.slice none 0 0,.slice none 0 0,.slice none 0 0,.slice none 0 0,.slice none 0 0,.slice none 0 0,.slice none 0 0,.slice none 0 0,.slice none 0 0,.slice none 0 0,.slice none 0 0,.slice none 0 0,.slice none 0 0,.slice none 0 0,.slice none 0 0,.slice none 0 0,.slice none 0 0,.slice none 0 0,.slice none 0 0,.slice none 0 0,.slice none 0 0,.slice none 0 0,.slice none 0 0,.slice none 0 0,.slice none 0 0,.slice none 0 0,.slice none 0 0,.slice none 0 0,.slice none 0 0,.slice none 0 0]⟩),
  (286,⟨.struct #[{name:= "replacements",type:=284,offset:=0,embedded:=false,tag:= "",pkgPath:= "strings",byteOffset:=0},{name:= "toReplace",type:=117,offset:=256,embedded:=false,tag:= "",pkgPath:= "strings",byteOffset:=6144}],257,6168,.agg #[.slice none 0 0,.slice none 0 0,.slice none 0 0,.slice none 0 0,.slice none 0 0,.slice none 0 0,.slice none 0 0,.slice none 0 0,.slice none 0 0,.slice none 0 0,.slice none 0 0,.slice none 0 0,.slice none 0 0,.slice none 0 0,.slice none 0 0,.slice none 0 0,.slice none 0 0,.slice none 0 0,.slice none 0 0,.slice none 0 0,.slice none 0 0,.slice none 0 0,.slice none 0 0,.slice none 0 0,.slice none 0 0,.slice none 0 0,.slice none 0 0,.slice none 0 0,.slice none 0 0,.slice none 0 0,.slice none 0 0,.slice none 0 0,.slice none 0 0,.slice none 0 0,.slice none 0 0,.slice none 0 0,.slice none 0 0,.slice none 0 0,.slice none 0 0,.slice none 0 0,.slice none 0 0,.slice none 0 0,.slice none 0 0,.slice none 0 0,.slice none 0 0,.slice none 0 0,.slice none 0 0,.slice none 0 0,.slice none 0 0,.slice none 0 0,.slice none 0 0,.slice none 0 0,.slice none 0 0,.slice none 0 0,.slice none 0 0,.slice none 0 0,.slice none 0 0,.slice none 0 0,.slice none 0 0,.slice none 0 0,.slice none 0 0,.slice none 0 0,.slice none 0 0,.slice none 0 0,.slice none 0 0,.slice none 0 0,.slice none 0 0,.slice none 0 0,.slice none 0 0,.slice none 0 0,.slice none 0 0,.slice none 0 0,.slice none 0 0,.slice none 0 0,.slice none 0 0,.slice none 0 0,.slice none 0 0,.slice none 0 0,.slice none 0 0,.slice none 0 0,.slice none 0 0,.slice none 0 0,.slice none 0 0,.slice none 0 0,.slice none 0 0,.slice none 0 0,.slice none 0 0,.slice none 0 0,.slice none 0 0,.slice none 0 0,.slice none 0 0,.slice none 0 0,.slice none 0 0,.slice none 0 0,.slice none 0 0,.slice none 0 0,.slice none 0 0,.slice none 0 0,.slice none 0 0,.slice none 0 0,.slice none 0 0,.slice none 0 0,.slice none 0 0,.slice none 0 0,.slice none 0 0,.slice none 0 0,.slice none 0 0,.slice none 0 0,.slice none 0 0,.slice none 0 0,.slice none 0 0,.slice none 0 0,.slice none 0 0,.slice none 0 0,.slice none 0 0,.slice none 0 0,.slice none 0 0,.slice none 0 0,.slice none 0 0,.slice none 0 0,.slice none 0 0,.slice none 0 0,.slice none 0 0,.slice none 0 0,.slice none 0 0,.slice none 0 0,.slice none 0 0,.slice none 0 0,.slice none 0 0,.slice none 0 0,.slice none 0 0,.slice none 0 0,.slice none 0 0,.slice none 0 0,.slice none 0 0,.slice none 0 0,.slice none 0 0,.slice none 0 0,.slice none 0 0,.slice none 0 0,.slice none 0 0,.slice none 0 0,.slice none 0 0,.slice none 0 0,.slice none 0 0,.slice none 0 0,.slice none 0 0,.slice none 0 0,.slice none 0 0,.slice none 0 0,.slice none 0 0,.slice none 0 0,.slice none 0 0,.slice none 0 0,.slice none 0 0,.slice none 0 0,.slice none 0 0,.slice none 0 0,.slice none 0 0,.slice none 0 0,.slice none 0 0,.slice none 0 0,.slice none 0 0,.slice none 0 0,.slice none 0 0,.slice none 0 0,.slice none 0 0,.slice none 0 0,.slice none 0 0,.slice none 0 0,.slice none 0 0,.slice none 0 0,.slice none 0 0,.slice none 0 0,.slice none 0 0,.slice none 0 0,.slice none 0 0,.slice none 0 0,.slice none 0 0,.slice none 0 0,.slice none 0 0,.slice none 0 0,.slice none 0 0,.slice none 0 0,.slice none 0 0,.slice none 0 0,.slice none 0 0,.slice none 0 0,.slice none 0 0,.slice none 0 0,.slice none 0 0,.slice none 0 0,.slice none 0 0,.slice none 0 0,.slice none 0 0,.slice none 0 0,.slice none 0 0,.slice none 0 0,.slice none 0 0,.slice none 0 0,.slice none 0 0,.slice none 0 0,.slice none 0 0,.slice none 0 0,.slice none 0 0,.slice none 0 0,.slice none 0 0,.slice none 0 0,.slice none 0 0,.slice none 0 0,.slice none 0 0,.slice none 0 0,.slice none 0 0,.slice none 0 0,.slice none 0 0,.slice none 0 0,.slice none 0 0,.slice none 0 0,.slice none 0 0,.slice none 0 0,.slice none 0 0,.slice none 0 0,.slice none 0 0,.slice none 0 0,.slice none 0 0,.slice none 0 0,.slice none 0 0,.slice none 0 0,.slice none 0 0,.slice none 0 0,.slice none 0 0,.slice none 0 0,.slice none 0 0,.slice none 0 0,.slice none 0 0,.slice none 0 0,.slice none 0 0,.slice none 0 0,.slice none 0 0,.slice none 0 0,.slice none 0 0,.slice none 0 0,.slice none 0 0,.slice none 0 0,.slice none 0 0,.slice none 0 0,.slice none 0 0,.slice none 0 0,.slice none 0 0,.slice none 0 0,.slice none 0 0,.slice none 0 0,.slice none 0 0,.slice none 0 0,.slice none 0 0,.slice none 0 0,.slice none 0 0]⟩),
  (287,⟨.pointer 286,1,8,.pointer none⟩),
  (302,⟨.pointer 252,1,8,.pointer none⟩),
  (304,⟨.pointer 21,1,8,.pointer none⟩)]
theorem Tryz.hU:TabOk Tryz.prog Tryz.U:=
  .cons (by kernel_rfl) (by kernel_rfl)<|
  .cons (by kernel_rfl) (by kernel_rfl)<|
  .cons (by kernel_rfl) (by kernel_rfl)<|
  .cons (by kernel_rfl) (by kernel_rfl)<|
  .cons (by kernel_rfl) (by kernel_rfl)<|
  .cons (by kernel_rfl) (by kernel_rfl)<|
  .cons (by kernel_rfl) (by kernel_rfl)<|
  .cons (by kernel_rfl) (by kernel_rfl)<|
  .cons (by kernel_rfl) (by kernel_rfl)<|
  .cons (by kernel_rfl) (by kernel_rfl)<|
  .cons (by kernel_rfl) (by kernel_rfl)<|
  .cons (by kernel_rfl) (by kernel_rfl)<|
  .cons (by kernel_rfl) (by kernel_rfl)<|
  .cons (by kernel_rfl) (by kernel_rfl)<|
  .cons (by kernel_rfl) (by kernel_rfl)<|
  .cons (by kernel_rfl) (by kernel_rfl)<|
  .cons (by kernel_rfl) (by kernel_rfl)<|
  .cons (by kernel_rfl) (by kernel_rfl)<|
  .cons (by kernel_rfl) (by kernel_rfl)<|
  .cons (by kernel_rfl) (by kernel_rfl)<|
  .cons (by kernel_rfl) (by kernel_rfl)<|
  .cons (by kernel_rfl) (by kernel_rfl)<|
  .cons (by kernel_rfl) (by kernel_rfl)<|
  .cons (by kernel_rfl) (by kernel_rfl)<|
  .cons (by kernel_rfl) (by kernel_rfl)<|
  .cons (by kernel_rfl) (by kernel_rfl)<|
  .cons (by kernel_rfl) (by kernel_rfl)<|
  .cons (by kernel_rfl) (by kernel_rfl)<|
  .cons (by kernel_rfl) (by kernel_rfl)<|
  .cons (by kernel_rfl) (by kernel_rfl)<|
  .cons (by kernel_rfl) (by kernel_rfl)<|
  .cons (by kernel_rfl) (by kernel_rfl)<|
  .cons (by kernel_rfl) (by kernel_rfl)<|
  .cons (by kernel_rfl) (by kernel_rfl)<|
  .cons (by kernel_rfl) (by kernel_rfl)<|
  .cons (by kernel_rfl) (by kernel_rfl)<|
  .cons (by kernel_rfl) (by kernel_rfl)<|
  .cons (by kernel_rfl) (by kernel_rfl)<|
  .cons (by kernel_rfl) (by kernel_rfl)<|
  .cons (by kernel_rfl) (by kernel_rfl)<|
  .cons (by kernel_rfl) (by kernel_rfl)<|
  .cons (by kernel_rfl) (by kernel_rfl)<|
  .cons (by kernel_rfl) (by kernel_rfl)<|
  .cons (by kernel_rfl) (by kernel_rfl)<|
  .cons (by kernel_rfl) (by kernel_rfl)<|
  .cons (by kernel_rfl) (by kernel_rfl)<|
  .cons (by kernel_rfl) (by kernel_rfl)<|
  .cons (by kernel_rfl) (by kernel_rfl)<|
  .cons (by kernel_rfl) (by kernel_rfl)<|
  .cons (by kernel_rfl) (by kernel_rfl)<|
  .cons (by kernel_rfl) (by kernel_rfl)<|
  .cons (by kernel_rfl) (by kernel_rfl)<|
  .cons (by kernel_rfl) (by kernel_rfl)<|
  .cons (by kernel_rfl) (by kernel_rfl)<|
  .cons (by kernel_rfl) (by kernel_rfl)<|
  .cons (by kernel_rfl) (by kernel_rfl)<|
  .cons (by kernel_rfl) (by kernel_rfl)<|
  .cons (by kernel_rfl) (by kernel_rfl)<|
  .cons (by kernel_rfl) (by kernel_rfl)<|
  .cons (by kernel_rfl) (by kernel_rfl)<|
  .cons (by kernel_rfl) (by kernel_rfl)<|
  .cons (by kernel_rfl) (by kernel_rfl)<|
  .cons (by kernel_rfl) (by kernel_rfl)<|
  .cons (by kernel_rfl) (by kernel_rfl)<|
  .cons (by kernel_rfl) (by kernel_rfl)<|
  .cons (by kernel_rfl) (by kernel_rfl)<|
  .cons (by kernel_rfl) (by kernel_rfl)<|
  .cons (by kernel_rfl) (by kernel_rfl)<|
  .cons (by kernel_rfl) (by kernel_rfl)<|
  .cons (by kernel_rfl) (by kernel_rfl)<|
  .cons (by kernel_rfl) (by kernel_rfl)<|
  .cons (by kernel_rfl) (by kernel_rfl)<|
  .cons (by kernel_rfl) (by kernel_rfl)<|
  .cons (by kernel_rfl) (by kernel_rfl)<|
  .cons (by kernel_rfl) (by kernel_rfl)<|
  .cons (by kernel_rfl) (by kernel_rfl)<|
  .nil _
theorem hm:Tryz.prog.follows .mixedOrders=true:=by kernel_rfl
def zk (x:zb):List AV:=[S x.Prefix,S x.URI]
def qj (x:zN):List AV:=[S x.Prefix,S x.Local,S x.URI,S x.Value]
def zl (x:ze):List AV:=[I x.Kind,I x.Parent,S x.Prefix,S x.Local,S x.URI,S x.Text,.vs x.Decls.length (F zk x.Decls),.vs x.Attrs.length (F qj x.Attrs)]
def zq (x:zu):List AV:=[I x.n,S x.name]
def c_TSpan (x:z8):List AV:=[.pl (.int .i32 x.from_),.pl (.int .i32 x.to_)]
def Zw (x:qt):List AV:=[.vs x.l.length (F zl x.l),.vs x.end_.length (F cI x.end_),I x.top]
def Jt (x:zK):List AV:=[I x.N,I x.Part,I x.I]
theorem Zq {s:(List UInt8)}{r:Int}(h:qH s=some r):XSpec Tryz.prog 241 [.vs s.length (F cU s)] [] (.pl (.int .u64 r)) [] []:=by
  unfold qH at h;refine zf Tryz.hU Tryz.func241 (fun _ _ _ hB=> ?_);refine z.d8.f8.j4.g ?_;refine Zt [] (.q 0 (.q 1 (.q 2 (.q 3 (.q 4 (.q 5 (.q 6 (.q 7 (.q 8 (.q 9 (.q 10 (.q 11 (.q 12 (.q 13 (.q 14 (.q 15 (.q 16 (.q 17 (.q 18 (.q 19 (.q 20 (.q 21 (.q 22 (.q 23 (.q 24 (.q 25 (.q 26 (.q 27 (.q 28 (.q 29 (.q 30 (.q 31 (.q 32 (.q 33 (.q 34 (.q 35 (.q 36 (.q 37 (.q 38 (.q 39 (.q 40 (.q 41 (.q 42 (.q 43 (.q 44 (.q 45 (.q 46 (.done)))))))))))))))))))))))))))))))))))))))))))))))) hm ?_;refine z.F.g ?_;refine n_at h (fun v1 _ h=> ?_);refine z.F.o1.b.l5.g ?_;refine n_at h (fun v2 _ h=> ?_);refine z.b.o1.b.l5.g ?_;refine n_shlC (r:=(v64 (v2.toNat:Int))*2^8) ?_;refine z.F.m1.b.g ?_;refine n_at h (fun v3 _ h=> ?_);refine z.b.o1.b.l5.g ?_;refine n_shlC (r:=(v64 (v3.toNat:Int))*2^16) ?_;refine z.F.m1.b.g ?_;refine n_at h (fun v4 _ h=> ?_);refine z.b.o1.b.l5.g ?_;refine n_shlC (r:=(v64 (v4.toNat:Int))*2^24) ?_;refine z.F.m1.b.g ?_;refine n_at h (fun v5 _ h=> ?_);refine z.b.o1.b.l5.g ?_;refine n_shlC (r:=(v64 (v5.toNat:Int))*2^32) ?_;refine z.F.m1.b.g ?_;refine n_at h (fun v6 _ h=> ?_);refine z.b.o1.b.l5.g ?_;refine n_shlC (r:=(v64 (v6.toNat:Int))*2^40) ?_;refine z.F.m1.b.g ?_;refine n_at h (fun v7 _ h=> ?_);refine z.b.o1.b.l5.g ?_;refine n_shlC (r:=(v64 (v7.toNat:Int))*2^48) ?_;refine z.F.m1.b.g ?_;refine n_at h (fun v8 _ h=> ?_);refine z.b.o1.b.l5.g ?_;refine n_shlC (r:=(v64 (v8.toNat:Int))*2^56) ?_;refine z.j5.h6.m2.b.m1.b.g ?_;apply za [] hB h
theorem utf8_Valid_ok {p:(List UInt8)}{r:Bool}(h:utf8_Valid p=some r):XSpec Tryz.prog 205 [.vs p.length (F cU p)] [] (B r) [] []:=by
  unfold utf8_Valid at h;refine zf Tryz.hU Tryz.func205 (fun _ _ _ hB=> ?_);refine z.K.a.K.k1.g ?_;refine l_sub3 h (fun v1 _ h=> ?_);refine z.c1.c0.g ?_;refine zE (fun y2=>⟨[(0,.vs y2.length (F cU y2))],[],[]⟩) (Sum.elim (fun q40=>(.ret,⟨[(2,B false)],[],[]⟩)) (fun q41=>(.exit 0,⟨[],[],[]⟩))) [] hB h (fun y2 t h=> ?_) (fun q h=> ?_)
  · unfold QI at h;refine z.q.K.S.g ?_;refine zo h (fun _ h=> ?_) (fun _ h=> ?_)
    · refine z.d.k2.g ?_;refine Qd h (fun v3 _ h=> ?_);refine z.q.L.j6.g ?_;refine zo h (fun _ h=> ?_) (fun _ h=> ?_)
      · refine z.d.g ?_;refine l_subf h (fun v4 _ h=> ?_);refine z.e1.g ?_;refine qP (fun q6=>(.normal,⟨[(0,.vs v4.length (F cU v4)),(31,B q6)],[],[]⟩)) h (fun t h=> ?_) (fun q6 h=> ?_)
        · refine z.s.K.k.g ?_;refine zc h (fun _ h=> ?_) (fun _ h=> ?_)
          · refine z.f.g ?_;refine zn h (fun _=>Zq) (fun v5 _ h=> ?_);refine z.N.c7.h7.a8.g ?_;exact zp [] hB h
          refine z.c2.n.g ?_;exact zp [] hB h
        refine f_t ?_;refine zo h (fun _ h=> ?_) (fun _ h=> ?_)
        · refine z.d.g ?_;refine l_subf h (fun v7 _ h=> ?_);refine z.c0.g ?_;refine qP (fun q11=>(.normal,⟨[(0,.vs v7.length (F cU v7)),(46,B q11)],[],[]⟩)) h (fun t h=> ?_) (fun q11 h=> ?_)
          · refine Zt [] (.q 0 (.q 1 (.q 2 (.q 3 (.q 4 (.q 6 (.q 7 (.e 5 (.e 8 (.q 9 (.q 10 (.q 11 (.q 12 (.done)))))))))))))) hm ?_;refine z.F.b1.b.m8.F.g ?_;refine Qp h (fun _ h=> ?_) (fun _ h=> ?_)
            · refine z.b5.b5.f3.g ?_;refine n_subf h (fun v8 _ h=> ?_);refine z.G.g ?_;refine n_call h (fun _=>Zq) (fun v9 _ h=> ?_);refine z.G.g ?_;refine n_call h (fun _=>Zq) (fun v10 _ h=> ?_);refine z.Z.b.b1.t.m1.t.m1.t.g ?_;exact zp [] hB h
            refine z.e2.p3.c8.n3.A.n3.V.g ?_;exact zp [] hB h
          refine f_t ?_;refine zo h (fun _ h=> ?_) (fun _ h=> ?_)
          · refine z.d.g ?_;refine l_subf h (fun v12 _ h=> ?_);refine z.i2.g ?_;refine zE (fun y13=>⟨[(0,.vs y13.length (F cU y13))],[],[]⟩) (fun q22=>(.exit 2,⟨[(0,.vs q22.length (F cU q22))],[],[]⟩)) [] hB h (fun y13 t h=> ?_) (fun q22 h=> ?_)
            · unfold QL at h;refine z.O.O.g ?_;refine Zt [] (.q 0 (.q 1 (.q 2 (.q 3 (.q 4 (.q 6 (.q 7 (.q 10 (.q 11 (.q 13 (.q 14 (.e 5 (.e 8 (.q 9 (.e 12 (.e 15 (.q 16 (.q 17 (.q 18 (.q 19 (.q 20 (.done)))))))))))))))))))))) hm ?_;refine z.F.b1.b.m8.F.g ?_;refine Qp h (fun _ h=> ?_) (fun _ h=> ?_)
              · refine z.b5.b5.f3.g ?_;refine n_subf h (fun v14 _ h=> ?_);refine z.b5.t.g ?_;refine n_subf h (fun v15 _ h=> ?_);refine z.b5.t.g ?_;refine n_subf h (fun v16 _ h=> ?_);refine z.G.g ?_;refine n_call h (fun _=>Zq) (fun v17 _ h=> ?_);refine z.G.g ?_;refine n_call h (fun _=>Zq) (fun v18 _ h=> ?_);refine z.G.m1.t.g ?_;refine n_call h (fun _=>Zq) (fun v19 _ h=> ?_);refine z.G.g ?_;refine n_call h (fun _=>Zq) (fun v20 _ h=> ?_);refine z.d0.Z.b.b1.t.m1.t.m1.t.m1.t.g ?_;refine zo h (fun _ h=> ?_) (fun _ h=> ?_)
                · refine z.k.k2.g ?_;refine l_subf h (fun v21 _ h=> ?_);refine z.i3.g ?_;exact zt [] hB h
                refine z.l.g ?_;exact zr [] hB h
              refine z.l.f8.h6.p3.o2.c8.n3.A.n3.o2.A.n3.A.n3.V.e3.g ?_;exact zr [] hB h
            refine z.n6.l.P.g ?_;exact zt [] hB h
          refine z.n6.l.H.g ?_;exact zt [] hB h
        refine z.n6.l.H.g ?_;exact zt [] hB h
      refine z.B.g ?_;refine l_atg (ev:=(fun x:UInt8=>[Value.int .u8 (x.toNat:Int)])) 0 h (fun v23 _ h=> ?_);refine z.C.f4.C.j6.g ?_;refine l_shrU v23 4 ?_;refine l_atg (ev:=(fun x:Jn=>[Value.int .u8 (x.lo.toNat:Int),Value.int .u8 (x.hi.toNat:Int)])) 1 h (fun v24 _ h=> ?_);refine z.i4.c.m3.d.d2.d1.d6.g ?_;refine zo h (fun _ h=> ?_) (fun _ h=> ?_)
      · refine z.O.O.g ?_;refine Zt [] (.q 0 (.q 1 (.q 2 (.q 3 (.q 4 (.q 5 (.q 6 (.q 7 (.q 8 (.q 9 (.q 10 (.q 11 (.q 12 (.q 13 (.q 14 (.q 15 (.q 16 (.q 17 (.q 18 (.done)))))))))))))))))))) hm ?_;refine z.F.b1.b.m8.F.g ?_;refine Qp h (fun _ h=> ?_) (fun _ h=> ?_)
        · refine z.u.i5.d9.d0.Z.V.e8.V.e3.g ?_;exact zr [] hB h
        refine z.b5.f3.g ?_;refine n_at h (fun v25 _ h=> ?_);refine z.F.m9.b1.b4.W.m4.t.g ?_;refine Qp h (fun _ h=> ?_) (fun _ h=> ?_)
        · refine z.u.i5.d9.d0.Z.V.e3.g ?_;exact zr [] hB h
        refine z.b5.b4.o3.f3.g ?_;refine n_at h (fun v26 _ h=> ?_);refine z.d0.o9.b1.b4.t.g ?_;refine zo h (fun _ h=> ?_) (fun _ h=> ?_)
        · refine z.u.i5.g ?_;exact zr [] hB h
        refine z.k.H.g ?_;refine l_subf h (fun v27 _ h=> ?_);refine z.e4.i3.g ?_;exact zt [] hB h
      refine z.i4.c.g ?_;refine zo h (fun _ h=> ?_) (fun _ h=> ?_)
      · refine z.O.O.g ?_;refine Zt [] (.q 0 (.q 1 (.q 2 (.q 3 (.q 4 (.q 5 (.q 6 (.q 7 (.q 8 (.q 9 (.q 10 (.q 11 (.q 12 (.q 13 (.q 14 (.q 15 (.q 16 (.q 17 (.q 18 (.q 19 (.q 20 (.q 21 (.q 22 (.q 23 (.q 24 (.q 25 (.q 26 (.q 27 (.q 28 (.q 29 (.q 30 (.done)))))))))))))))))))))))))))))))) hm ?_;refine z.F.b1.b.m8.F.g ?_;refine Qp h (fun _ h=> ?_) (fun _ h=> ?_)
        · refine z.u.i5.d9.d0.Z.e8.e8.V.e8.V.e3.g ?_;exact zr [] hB h
        refine z.b5.f3.g ?_;refine n_at h (fun v28 _ h=> ?_);refine z.F.m9.b1.b4.W.m4.t.g ?_;refine Qp h (fun _ h=> ?_) (fun _ h=> ?_)
        · refine z.u.i5.d9.d0.Z.e8.e8.V.e3.g ?_;exact zr [] hB h
        refine z.b5.b4.o3.f3.g ?_;refine n_at h (fun v29 _ h=> ?_);refine z.F.m9.b1.b4.t.g ?_;refine Qp h (fun _ h=> ?_) (fun _ h=> ?_)
        · refine z.u.i5.d9.d0.Z.e8.e3.g ?_;exact zr [] hB h
        refine z.b5.f3.g ?_;refine n_at h (fun v30 _ h=> ?_);refine z.F.m9.b1.b4.t.g ?_;refine Qp h (fun _ h=> ?_) (fun _ h=> ?_)
        · refine z.u.i5.d9.d0.Z.e3.g ?_;exact zr [] hB h
        refine z.b5.f3.g ?_;refine n_at h (fun v31 _ h=> ?_);refine z.d0.o9.b1.b4.t.g ?_;refine zo h (fun _ h=> ?_) (fun _ h=> ?_)
        · refine z.u.i5.g ?_;exact zr [] hB h
        refine z.k.H.g ?_;refine l_subf h (fun v32 _ h=> ?_);refine z.e4.i3.g ?_;exact zt [] hB h
      refine z.i4.c.g ?_;refine zo h (fun _ h=> ?_) (fun _ h=> ?_)
      · refine z.O.O.g ?_;refine Zt [] (.q 0 (.q 1 (.q 2 (.q 3 (.q 4 (.q 5 (.q 6 (.q 7 (.q 8 (.q 9 (.q 10 (.q 11 (.q 12 (.q 13 (.q 14 (.q 15 (.q 16 (.q 17 (.q 18 (.q 19 (.q 20 (.q 21 (.q 22 (.q 23 (.q 24 (.q 25 (.q 26 (.q 27 (.q 28 (.q 29 (.q 30 (.q 31 (.q 32 (.q 33 (.q 34 (.q 35 (.q 36 (.q 37 (.q 38 (.q 39 (.q 40 (.q 41 (.q 42 (.done)))))))))))))))))))))))))))))))))))))))))))) hm ?_;refine z.F.b1.b.m8.F.g ?_;refine Qp h (fun _ h=> ?_) (fun _ h=> ?_)
        · refine z.u.i5.d9.d0.Z.e8.e8.e8.e8.V.e8.V.e3.g ?_;exact zr [] hB h
        refine z.b5.f3.g ?_;refine n_at h (fun v33 _ h=> ?_);refine z.F.m9.b1.b4.W.m4.t.g ?_;refine Qp h (fun _ h=> ?_) (fun _ h=> ?_)
        · refine z.u.i5.d9.d0.Z.e8.e8.e8.e8.V.e3.g ?_;exact zr [] hB h
        refine z.b5.b4.o3.f3.g ?_;refine n_at h (fun v34 _ h=> ?_);refine z.F.m9.b1.b4.t.g ?_;refine Qp h (fun _ h=> ?_) (fun _ h=> ?_)
        · refine z.u.i5.d9.d0.Z.e8.e8.e8.e3.g ?_;exact zr [] hB h
        refine z.b5.f3.g ?_;refine n_at h (fun v35 _ h=> ?_);refine z.F.m9.b1.b4.t.g ?_;refine Qp h (fun _ h=> ?_) (fun _ h=> ?_)
        · refine z.u.i5.d9.d0.Z.e8.e8.e3.g ?_;exact zr [] hB h
        refine z.b5.f3.g ?_;refine n_at h (fun v36 _ h=> ?_);refine z.F.m9.b1.b4.t.g ?_;refine Qp h (fun _ h=> ?_) (fun _ h=> ?_)
        · refine z.u.i5.d9.d0.Z.e8.e3.g ?_;exact zr [] hB h
        refine z.b5.f3.g ?_;refine n_at h (fun v37 _ h=> ?_);refine z.F.m9.b1.b4.t.g ?_;refine Qp h (fun _ h=> ?_) (fun _ h=> ?_)
        · refine z.u.i5.d9.d0.Z.e3.g ?_;exact zr [] hB h
        refine z.b5.f3.g ?_;refine n_at h (fun v38 _ h=> ?_);refine z.d0.o9.b1.b4.t.g ?_;refine zo h (fun _ h=> ?_) (fun _ h=> ?_)
        · refine z.u.i5.g ?_;exact zr [] hB h
        refine z.k.H.g ?_;refine l_subf h (fun v39 _ h=> ?_);refine z.e4.i3.g ?_;exact zt [] hB h
      refine z.u.u.a0.g ?_;exact zr [] hB h
    refine z.l.g ?_;exact zr [] hB h
  rcases q with q40|q41
  · dsimp only [Sum.elim] at h ⊢
    refine z.p.g ?_;apply za [] hB h
  dsimp only [Sum.elim] at h ⊢
  refine z.a0.P.g ?_;apply za [] hB h
theorem utf_Valid_ok {b:(List UInt8)}{r:Bool}(h:utf_Valid b=some r):XSpec Tryz.prog 155 [.vs b.length (F cU b)] [] (B r) [] []:=by
  unfold utf_Valid at h;refine zf Tryz.hU Tryz.func155 (fun _ _ _ hB=> ?_);refine z.a4.g ?_;refine zn h (fun _=>utf8_Valid_ok) (fun v1 _ h=> ?_);refine z.h.g ?_;apply za [] hB h
theorem utf8_decodeRuneSlow_ok {p:(List UInt8)}{r:Int×Int}(h:Z2 p=some r):XSpec Tryz.prog 206 [.vs p.length (F cU p)] [] (.tup [.pl (.int .i32 r.1),I r.2]) [] []:=by
  unfold Z2 at h;refine zf Tryz.hU Tryz.func206 (fun _ _ _ hB=> ?_);refine z.q.L.K.C.a9.g ?_;refine zo h (fun _ h=> ?_) (fun _ h=> ?_)
  · refine z.Q.g ?_;apply za [] hB h
  refine z.B.g ?_;refine Qd h (fun v1 _ h=> ?_);refine z.C.j6.g ?_;refine l_atg (ev:=(fun x:UInt8=>[Value.int .u8 (x.toNat:Int)])) 0 h (fun v2 _ h=> ?_);refine z.q.L.j6.g ?_;refine zo h (fun _ h=> ?_) (fun _ h=> ?_)
  · refine z.f9.d.g ?_;refine l_shlC (r:=(w32 (v2.toNat:Int))*2^31) ?_;refine Qs (r:=((w32 ((w32 (v2.toNat:Int))*2^31)).fdiv (2^31))) ?_;refine z.C.g ?_;refine Qd h (fun v3 _ h=> ?_);refine z.f5.h7.h7.a.h7.a.f9.j6.g ?_;apply za [] hB h
  refine z.C.f4.B.g ?_;refine l_shrU v2 4 ?_;refine l_atg (ev:=(fun x:Jn=>[Value.int .u8 (x.lo.toNat:Int),Value.int .u8 (x.hi.toNat:Int)])) 1 h (fun v4 _ h=> ?_);refine z.i6.d2.d1.d6.g ?_;refine zo h (fun _ h=> ?_) (fun _ h=> ?_)
  · refine z.Q.g ?_;apply za [] hB h
  refine z.B.g ?_;refine Qd h (fun v5 _ h=> ?_);refine z.e1.j6.g ?_;refine qP (fun q6=>(.normal,⟨[(0,.vs p.length (F cU p)),(5,U v1),(8,I (w64 ((u8 (band 8 (v2.toNat:Int) 7)).toNat:Int))),(10,U v5),(60,B q6)],[],[]⟩)) h (fun t h=> ?_) (fun q6 h=> ?_)
  · refine z.s.M.k.g ?_;refine zc h (fun _ h=> ?_) (fun _ h=> ?_)
    · refine z.N.n.g ?_;exact zp [] hB h
    refine z.c2.v.p4.a8.g ?_;exact zp [] hB h
  refine f_t ?_;refine zo h (fun _ h=> ?_) (fun _ h=> ?_)
  · refine z.Q.g ?_;apply za [] hB h
  refine z.q.d.d8.g ?_;refine zo h (fun _ h=> ?_) (fun _ h=> ?_)
  · refine z.f4.d.g ?_;refine l_shlC (r:=(w32 ((u8 (band 8 (v1.toNat:Int) 31)).toNat:Int))*2^6) ?_;refine z.f5.h7.f4.a.g ?_;apply za [] hB h
  refine z.B.g ?_;refine Qd h (fun v7 _ h=> ?_);refine z.e1.j6.g ?_;refine qP (fun q8=>(.normal,⟨[(0,.vs p.length (F cU p)),(5,U v1),(8,I (w64 ((u8 (band 8 (v2.toNat:Int) 7)).toNat:Int))),(10,U v5),(11,U v7),(79,B q8)],[],[]⟩)) h (fun t h=> ?_) (fun q8 h=> ?_)
  · refine z.s.k.g ?_;refine zc h (fun _ h=> ?_) (fun _ h=> ?_)
    · refine z.N.m.g ?_;exact zp [] hB h
    refine z.c2.v.g ?_;exact zp [] hB h
  refine f_t ?_;refine zo h (fun _ h=> ?_) (fun _ h=> ?_)
  · refine z.Q.g ?_;apply za [] hB h
  refine z.q.d.d8.g ?_;refine zo h (fun _ h=> ?_) (fun _ h=> ?_)
  · refine z.f4.d.g ?_;refine l_shlC (r:=(w32 ((u8 (band 8 (v1.toNat:Int) 15)).toNat:Int))*2^12) ?_;refine z.f4.a.g ?_;refine l_shlC (r:=(w32 ((u8 (band 8 (v5.toNat:Int) 63)).toNat:Int))*2^6) ?_;refine z.f5.h7.f4.a.h7.g ?_;apply za [] hB h
  refine z.B.g ?_;refine Qd h (fun v9 _ h=> ?_);refine z.e1.j6.g ?_;refine qP (fun q10=>(.normal,⟨[(5,U v1),(10,U v5),(11,U v7),(12,U v9),(103,B q10)],[],[]⟩)) h (fun t h=> ?_) (fun q10 h=> ?_)
  · refine z.s.k.g ?_;refine zc h (fun _ h=> ?_) (fun _ h=> ?_)
    · refine z.N.m.g ?_;exact zp [] hB h
    refine z.c2.v.g ?_;exact zp [] hB h
  refine f_t ?_;refine zo h (fun _ h=> ?_) (fun _ h=> ?_)
  · refine z.Q.g ?_;apply za [] hB h
  refine z.f4.B.g ?_;refine l_shlC (r:=(w32 ((u8 (band 8 (v1.toNat:Int) 7)).toNat:Int))*2^18) ?_;refine z.f4.a.g ?_;refine l_shlC (r:=(w32 ((u8 (band 8 (v5.toNat:Int) 63)).toNat:Int))*2^12) ?_;refine z.f4.a.h7.g ?_;refine l_shlC (r:=(w32 ((u8 (band 8 (v7.toNat:Int) 63)).toNat:Int))*2^6) ?_;refine z.J.h7.f4.a.h7.g ?_;apply za [] hB h
theorem utf8_DecodeRune_ok {p:(List UInt8)}{r:Int×Int}(h:Jy p=some r):XSpec Tryz.prog 156 [.vs p.length (F cU p)] [] (.tup [.pl (.int .i32 r.1),I r.2]) [] []:=by
  unfold Jy at h;refine zf Tryz.hU Tryz.func156 (fun _ _ _ hB=> ?_);refine z.e9.L.a9.g ?_;refine zE (fun y1=>⟨[(0,.vs p.length (F cU p)),(6,.vs p.length (F cU p)),(7,I (p.length:Int)),(8,I 0)],[],[]⟩) (Sum.elim (fun q3=>(.ret,⟨[(2,.pl (.int .i32 q3)),(3,I 1)],[],[]⟩)) (fun q4=>(.exit 0,⟨[(0,.vs p.length (F cU p))],[],[]⟩))) [] hB h (fun y1 t h=> ?_) (fun q h=> ?_)
  · unfold Jo at h;refine z.b6.g ?_;refine zo h (fun _ h=> ?_) (fun _ h=> ?_)
    · refine z.c.a1.g ?_;refine Qd h (fun v2 _ h=> ?_);refine z.q.L.j6.g ?_;refine zo h (fun _ h=> ?_) (fun _ h=> ?_)
      · refine z.p.f5.f9.d.g ?_;exact zr [] hB h
      refine z.q7.q6.q5.H.g ?_;exact zr [] hB h
    refine z.l.g ?_;exact zr [] hB h
  rcases q with q3|q4
  · dsimp only [Sum.elim] at h ⊢
    refine z.p.g ?_;apply za [] hB h
  dsimp only [Sum.elim] at h ⊢
  refine z.k3.g ?_;refine zn h (fun _=>utf8_decodeRuneSlow_ok) (fun v5 _ h=> ?_);refine z.J.k4.g ?_;apply za [] hB h
theorem utf_Chars_ok {b:(List UInt8)}{r:(List Int)×Bool}(h:utf_Chars b=some r):XSpec Tryz.prog 96 [.vs b.length (F cU b)] [] (.tup [.sl 1 0 r.1.length,B r.2]) [(1,.row 21 1 0 (F cR r.1))] []:=by
  unfold utf_Chars at h;refine zf Tryz.hU Tryz.func96 (fun _ _ _ hB=> ?_);refine z.L.a9.g ?_;refine zn h (fun _=>utf_Valid_ok) (fun v1 _ h=> ?_);refine z.d3.g ?_;refine zo h (fun _ h=> ?_) (fun _ h=> ?_)
  · refine z.Q.g ?_;refine f_nilrow (te:=21) (t:=2) 3002 1 ?_;apply za [(3002,1)] hB h
  refine z.i2.c.j4.H.g ?_;refine k_nilrow (te:=21) (t:=4) 3004 1 ?_;refine zE (fun y2=>⟨[(0,.vs b.length (F cU b)),(4,.sl 3004 0 y2.2.length),(5,I y2.1)],[(3004,.row 21 1 0 (F cR y2.2))],[]⟩) (fun q6=>(.exit 0,⟨[(4,.sl 3004 0 q6.length)],[(3004,.row 21 1 0 (F cR q6))],[]⟩)) [(3004,3004)] hB h (fun y2 t h=> ?_) (fun q6 h=> ?_)
  · unfold Jh at h;refine z.q.K.m0.g ?_;refine zo h (fun _ h=> ?_) (fun _ h=> ?_)
    · refine z.i.k2.g ?_;refine l_subf h (fun v3 _ h=> ?_);refine zn h (fun _=>utf8_DecodeRune_ok) (fun v4 _ h=> ?_);refine z.T.b7.g ?_;refine Qz (e:=cR) [v4.1] ?_;refine QN h (fun v5 _ h=> ?_);refine z.e4.l6.x.o.g ?_;exact zt [(3004,3004)] hB h
    refine z.l.g ?_;exact zr [(3004,3004)] hB h
  refine z.J.k3.g ?_;apply za [(3004,1)] hB h
theorem utf_Xml_ok {r_:Int}{r:Bool}(h:utf_Xml r_=some r):XSpec Tryz.prog 97 [.pl (.int .i32 r_)] [] (B r) [] []:=by
  unfold utf_Xml at h;refine zf Tryz.hU Tryz.func97 (fun _ _ _ hB=> ?_);refine z.j4.g ?_;refine qP (Sum.elim (fun q1=>(.ret,⟨[(2,B true)],[],[]⟩)) (fun q2=>(.normal,⟨[(0,.pl (.int .i32 r_))],[],[]⟩))) h (fun t h=> ?_) (fun q h=> ?_)
  · refine z.i4.S.c1.g ?_;refine zo h (fun _ h=> ?_) (fun _ h=> ?_)
    · refine z.H.g ?_;refine zo h (fun _ h=> ?_) (fun _ h=> ?_)
      · refine z.u.a0.g ?_;exact zp [] hB h
      refine z.e4.R.g ?_;exact zp [] hB h
    refine z.i4.d.g ?_;refine zo h (fun _ h=> ?_) (fun _ h=> ?_)
    · refine z.H.g ?_;refine zo h (fun _ h=> ?_) (fun _ h=> ?_)
      · refine z.u.a0.g ?_;exact zp [] hB h
      refine z.e4.R.g ?_;exact zp [] hB h
    refine z.i4.k.g ?_;refine zo h (fun _ h=> ?_) (fun _ h=> ?_)
    · refine z.u.a0.g ?_;exact zp [] hB h
    refine z.e4.R.g ?_;exact zp [] hB h
  rcases q with q1|q2
  · dsimp only [Sum.elim] at h ⊢
    refine f_tr ?_;apply za [] hB h
  dsimp only [Sum.elim] at h ⊢
  refine z.s.d.d0.g ?_;refine zc h (fun _ h=> ?_) (fun _ h=> ?_)
  · refine z.b2.v.g ?_;refine zc h (fun _ h=> ?_) (fun _ h=> ?_)
    · refine z.a5.m.I.k5.g ?_;apply za [] hB h
    refine z.w.v.g ?_;refine zc h (fun _ h=> ?_) (fun _ h=> ?_)
    · refine z.r.i7.v.g ?_;refine zc h (fun _ h=> ?_) (fun _ h=> ?_)
      · refine z.a5.k5.g ?_;apply za [] hB h
      refine z.w.v.g ?_;refine zc h (fun _ h=> ?_) (fun _ h=> ?_)
      · refine z.c3.i7.v.g ?_;apply za [] hB h
      refine z.c3.i8.m.g ?_;apply za [] hB h
    refine z.w.v.r.i8.m.g ?_;refine zc h (fun _ h=> ?_) (fun _ h=> ?_)
    · refine z.c3.i7.v.g ?_;apply za [] hB h
    refine z.c3.i8.m.g ?_;apply za [] hB h
  refine z.w.v.r.m.g ?_;refine zc h (fun _ h=> ?_) (fun _ h=> ?_)
  · refine z.r.i7.v.g ?_;refine zc h (fun _ h=> ?_) (fun _ h=> ?_)
    · refine z.a5.k5.g ?_;apply za [] hB h
    refine z.w.v.g ?_;refine zc h (fun _ h=> ?_) (fun _ h=> ?_)
    · refine z.c3.i7.v.g ?_;apply za [] hB h
    refine z.c3.i8.m.g ?_;apply za [] hB h
  refine z.w.v.r.i8.m.g ?_;refine zc h (fun _ h=> ?_) (fun _ h=> ?_)
  · refine z.c3.i7.v.g ?_;apply za [] hB h
  refine z.c3.i8.m.g ?_;apply za [] hB h
theorem utf_Text_ok {b:(List UInt8)}{r:Bool}(h:utf_Text b=some r):XSpec Tryz.prog 58 [.vs b.length (F cU b)] [] (B r) [] []:=by
  unfold utf_Text at h;refine zf Tryz.hU Tryz.func58 (fun _ _ _ hB=> ?_);refine z.a4.g ?_;refine zh [(1,100901)] [] h (fun _=>utf_Chars_ok) (fun v1 _ h=> ?_);refine z.e9.L.b7.g ?_;refine zE (fun y2=>⟨[(4,B y2.1),(12,.sl 100901 0 v1.1.length),(13,I (v1.1.length:Int)),(14,I y2.2)],[(100901,.row 21 1 0 (F cR v1.1))],[]⟩) (fun q5=>(.exit 0,⟨[(4,B q5)],[],[]⟩)) [(100901,100901)] hB h (fun y2 t h=> ?_) (fun q5 h=> ?_)
  · unfold zan at h;refine z.b6.g ?_;refine zo h (fun _ h=> ?_) (fun _ h=> ?_)
    · refine z.c.a1.g ?_;refine QO h (fun v3 ev3 h=> ?_);refine Qu ev3 ?_;refine z.x.o.g ?_;refine zc h (fun _ h=> ?_) (fun _ h=> ?_)
      · refine z.f.g ?_;refine zn h (fun _=>utf_Xml_ok) (fun v4 _ h=> ?_);refine z.c9.y.f6.g ?_;exact zt [(100901,100901)] hB h
      refine z.c9.y.f7.m.g ?_;exact zt [(100901,100901)] hB h
    refine z.l.g ?_;exact zr [] hB h
  refine z.h.k3.g ?_;apply za [] hB h
theorem strings_Count_ok {s sep:Str}{r:Int}(h:J5 s sep=some r):XSpec Tryz.prog 207 [S s,S sep] [] (I r) [] []:=by
  unfold J5 at h
  cases e:decide (s.length<4294967281∧1≤sep.length) with
  |false=>rw [e] at h;cases h
  |true=>
    rw [e] at h;cases h
    have e:=of_decide_eq_true e
    exact lift_x (args:=[.string ⟨s.toArray⟩,.string ⟨sep.toArray⟩]) (fun es w=>enters_of Tryz.func207 (by kernel_rfl) rfl es w) (fun w hi=>by
      obtain ⟨n,hn⟩:=hi 2 (by decide)
      exact Tryz.strings_Count_any ⟨s.toArray⟩ ⟨sep.toArray⟩ n w e.1 hn e.2)
theorem stringslite_Index_ok {s sep:Str}{r:Int}(h:stringslite_Index s sep=some r):XSpec Tryz.prog 245 [S s,S sep] [] (I r) [] []:=by
  unfold stringslite_Index at h
  cases e:decide (s.length<4294967281) with
  |false=>rw [e] at h;cases h
  |true=>
    rw [e] at h;cases h
    have e:=of_decide_eq_true e
    exact lift_x (args:=[.string ⟨s.toArray⟩,.string ⟨sep.toArray⟩]) (fun es w=>enters_of Tryz.func245 (by kernel_rfl) rfl es w) (fun w hi=>by
      obtain ⟨n,hn⟩:=hi 2 (by decide)
      exact Tryz.stringslite_Index ⟨s.toArray⟩ ⟨sep.toArray⟩ n w e hn)
theorem strings_Index_ok {s:Str}{substr:Str}{r:Int}(h:Qc s substr=some r):XSpec Tryz.prog 209 [S s,S substr] [] (I r) [] []:=by
  unfold Qc at h;refine zf Tryz.hU Tryz.func209 (fun _ _ _ hB=> ?_);refine z.k1.g ?_;refine zn h (fun _=>stringslite_Index_ok) (fun v1 _ h=> ?_);refine z.h.g ?_;apply za [] hB h
theorem Q6 {s:Str}{r:Int×Int}(h:Zj s=some r):XSpec Tryz.prog 246 [S s] [] (.tup [.pl (.int .i32 r.1),I r.2]) [] []:=by
  unfold Zj at h;refine zf Tryz.hU Tryz.func246 (fun _ _ _ hB=> ?_);refine z.q.L.a2.C.a9.g ?_;refine zo h (fun _ h=> ?_) (fun _ h=> ?_)
  · refine z.Q.g ?_;apply za [] hB h
  refine z.B.g ?_;refine Ql h (fun v1 _ h=> ?_);refine z.C.g ?_;refine l_atg (ev:=(fun x:UInt8=>[Value.int .u8 (x.toNat:Int)])) 0 h (fun v2 _ h=> ?_);refine z.q.L.j6.g ?_;refine zo h (fun _ h=> ?_) (fun _ h=> ?_)
  · refine z.f9.d.g ?_;refine l_shlC (r:=(w32 (v2.toNat:Int))*2^31) ?_;refine Qs (r:=((w32 ((w32 (v2.toNat:Int))*2^31)).fdiv (2^31))) ?_;refine z.C.g ?_;refine Ql h (fun v3 _ h=> ?_);refine z.f5.h7.h7.a.h7.a.f9.g ?_;apply za [] hB h
  refine z.C.f4.B.g ?_;refine l_shrU v2 4 ?_;refine l_atg (ev:=(fun x:Jn=>[Value.int .u8 (x.lo.toNat:Int),Value.int .u8 (x.hi.toNat:Int)])) 1 h (fun v4 _ h=> ?_);refine z.i6.d2.d1.d6.g ?_;refine zo h (fun _ h=> ?_) (fun _ h=> ?_)
  · refine z.Q.g ?_;apply za [] hB h
  refine z.B.g ?_;refine Ql h (fun v5 _ h=> ?_);refine z.e1.g ?_;refine qP (fun q6=>(.normal,⟨[(0,S s),(5,U v1),(8,I (w64 ((u8 (band 8 (v2.toNat:Int) 7)).toNat:Int))),(10,U v5),(57,B q6)],[],[]⟩)) h (fun t h=> ?_) (fun q6 h=> ?_)
  · refine z.s.M.k.g ?_;refine zc h (fun _ h=> ?_) (fun _ h=> ?_)
    · refine z.N.n.g ?_;exact zp [] hB h
    refine z.c2.v.p4.a8.g ?_;exact zp [] hB h
  refine f_t ?_;refine zo h (fun _ h=> ?_) (fun _ h=> ?_)
  · refine z.Q.g ?_;apply za [] hB h
  refine z.q.d.d8.g ?_;refine zo h (fun _ h=> ?_) (fun _ h=> ?_)
  · refine z.f4.d.g ?_;refine l_shlC (r:=(w32 ((u8 (band 8 (v1.toNat:Int) 31)).toNat:Int))*2^6) ?_;refine z.f5.h7.f4.a.g ?_;apply za [] hB h
  refine z.B.g ?_;refine Ql h (fun v7 _ h=> ?_);refine z.e1.g ?_;refine qP (fun q8=>(.normal,⟨[(0,S s),(5,U v1),(8,I (w64 ((u8 (band 8 (v2.toNat:Int) 7)).toNat:Int))),(10,U v5),(11,U v7),(75,B q8)],[],[]⟩)) h (fun t h=> ?_) (fun q8 h=> ?_)
  · refine z.s.k.g ?_;refine zc h (fun _ h=> ?_) (fun _ h=> ?_)
    · refine z.N.m.g ?_;exact zp [] hB h
    refine z.c2.v.g ?_;exact zp [] hB h
  refine f_t ?_;refine zo h (fun _ h=> ?_) (fun _ h=> ?_)
  · refine z.Q.g ?_;apply za [] hB h
  refine z.q.d.d8.g ?_;refine zo h (fun _ h=> ?_) (fun _ h=> ?_)
  · refine z.f4.d.g ?_;refine l_shlC (r:=(w32 ((u8 (band 8 (v1.toNat:Int) 15)).toNat:Int))*2^12) ?_;refine z.f4.a.g ?_;refine l_shlC (r:=(w32 ((u8 (band 8 (v5.toNat:Int) 63)).toNat:Int))*2^6) ?_;refine z.f5.h7.f4.a.h7.g ?_;apply za [] hB h
  refine z.B.g ?_;refine Ql h (fun v9 _ h=> ?_);refine z.e1.g ?_;refine qP (fun q10=>(.normal,⟨[(5,U v1),(10,U v5),(11,U v7),(12,U v9),(98,B q10)],[],[]⟩)) h (fun t h=> ?_) (fun q10 h=> ?_)
  · refine z.s.k.g ?_;refine zc h (fun _ h=> ?_) (fun _ h=> ?_)
    · refine z.N.m.g ?_;exact zp [] hB h
    refine z.c2.v.g ?_;exact zp [] hB h
  refine f_t ?_;refine zo h (fun _ h=> ?_) (fun _ h=> ?_)
  · refine z.Q.g ?_;apply za [] hB h
  refine z.f4.B.g ?_;refine l_shlC (r:=(w32 ((u8 (band 8 (v1.toNat:Int) 7)).toNat:Int))*2^18) ?_;refine z.f4.a.g ?_;refine l_shlC (r:=(w32 ((u8 (band 8 (v5.toNat:Int) 63)).toNat:Int))*2^12) ?_;refine z.f4.a.h7.g ?_;refine l_shlC (r:=(w32 ((u8 (band 8 (v7.toNat:Int) 63)).toNat:Int))*2^6) ?_;refine z.J.h7.f4.a.h7.g ?_;apply za [] hB h
theorem JP {s:Str}{r:Int×Int}(h:ZR s=some r):XSpec Tryz.prog 210 [S s] [] (.tup [.pl (.int .i32 r.1),I r.2]) [] []:=by
  unfold ZR at h;refine zf Tryz.hU Tryz.func210 (fun _ _ _ hB=> ?_);refine z.a.i9.L.a9.g ?_;refine zc h (fun _ h=> ?_) (fun _ h=> ?_)
  · refine z.f.g ?_;refine Ql h (fun v1 _ h=> ?_);refine z.h8.c7.g ?_;refine zo h (fun _ h=> ?_) (fun _ h=> ?_)
    · refine z.d.g ?_;refine Ql h (fun v2 _ h=> ?_);refine z.f5.f9.g ?_;apply za [] hB h
    refine z.k.g ?_;refine zn h (fun _=>Q6) (fun v3 _ h=> ?_);refine z.J.k4.g ?_;apply za [] hB h
  refine z.k.h0.j.g ?_;refine zn h (fun _=>Q6) (fun v4 _ h=> ?_);refine z.J.k4.g ?_;apply za [] hB h
theorem strings_Builder_copyCheck_s1_ok {u1:Bool}{r:Unit}(h:Zb u1=some r):XSpec Tryz.prog 139 [.ptr 2000101 0] [(2000101,.box 102 [.nptr u1 2000101 0,.pl (.slice none 0 0)])] (.tup []) [(2000101,.box 102 [.nptr false 2000101 0,.pl (.slice none 0 0)])] []:=by
  unfold Zb at h;refine zf Tryz.hU Tryz.func139 (fun _ _ _ hB=> ?_);refine z.b0.d.g ?_
  cases u1 with
  |true=>
    replace h:=bif_t h
    refine z.p0.x.d9.e.o4.g ?_;refine l_nat (noEscape_spec Tryz.func193 (.ptr 2000101 0:AV)) ?_;refine l_fromunsafe (P:=Tryz.prog) ?_;refine z.c4.n4.b8.g ?_;apply za [(2000101,2000101)] hB h
  |false=>
    replace h:=bif_f h
    refine z.R.f8.e.p8.j0.d.f8.e.o4.g ?_;apply za [(2000101,2000101)] hB h
theorem strings_Builder_grow_s1_ok {u1:Int}{u2:Bool}{r:Unit}(h:ZU u1 u2=some r):XSpec Tryz.prog 244 [.ptr 3000101 0,I u1] [(3000101,.box 102 [.nptr u2 3000101 0,.pl (.slice none 0 0)])] (.tup []) [(3000101,.box 102 [.nptr u2 3000101 0,.sl 3000151 0 0]),(3000151,.row 5 1 0 (F cU []))] []:=by
  unfold ZU at h;refine zf Tryz.hU Tryz.func244 (fun _ _ _ hB=> ?_);refine k_seq ?_;refine Zt [] (.q 0 (.q 1 (.q 2 (.q 3 (.q 4 (.q 5 (.q 6 (.q 7 (.q 9 (.q 10 (.q 11 (.q 12 (.q 13 (.e 8 (.q 14 (.q 15 (.done))))))))))))))))) hm ?_;refine z.A.q9.b.f0.n0.F.s1.b.q8.b.f0.g ?_;refine n_mnz Tryz.func260 h (fun v1 _ h=> ?_);refine gq ?_;refine n_subp h (fun h=> ?_);refine z.c4.n4.b8.x.e.s2.b0.i.h6.m2.b.g ?_;apply za [(3000101,3000101),(1013,3000151)] hB h
theorem JR {u1:Int}{u2:Bool}{r:Unit}(h:qC u1 u2=some r):XSpec Tryz.prog 208 [.ptr 1000101 0,I u1] [(1000101,.box 102 [.nptr u2 1000101 0,.pl (.slice none 0 0)])] (.tup []) [(1000101,.box 102 [.nptr false 1000101 0,.sl 1000151 0 0]),(1000151,.row 5 1 0 (F cU []))] []:=by
  unfold qC at h;refine zf Tryz.hU Tryz.func208 (fun _ _ _ hB=> ?_);refine z.d.g ?_;refine zh [(2000101,1000101)] [1000101] h (fun _=>strings_Builder_copyCheck_s1_ok) (fun v1 _ h=> ?_);refine z.q.S.e.g ?_;refine zo h (fun _ h=> ?_) (fun _ h=> ?_)
  · refine k_reg ?_
    cases h
  refine z.d8.g ?_;refine Zt [] (.q 0 (.q 1 (.q 2 (.q 3 (.q 4 (.q 5 (.q 6 (.q 7 (.q 8 (.q 9 (.q 10 (.q 11 (.q 12 (.done)))))))))))))) hm ?_;refine z.h6.b1.F.m5.b.q9.b.f0.q8.b.f0.g ?_;refine zo h (fun _ h=> ?_) (fun _ h=> ?_)
  · refine z.x.g ?_;refine zh [(3000101,1000101),(3000151,102451)] [1000101] h (fun _=>strings_Builder_grow_s1_ok) (fun v2 _ h=> ?_);refine k_nil ?_;apply za [(1000101,1000101),(102451,1000151)] hB h
  refine k_skip ?_;refine f_nilcell (te:=5) (b1:=1000101) (j:=1) 10004011 1 ?_;apply za [(1000101,1000101),(10004011,1000151)] hB h
theorem strings_Builder_copyCheck_s2_ok {u1:Bool}{u2:(List UInt8)}{r:Unit}(h:Zd u1 u2=some r):XSpec Tryz.prog 139 [.ptr 5000101 0] [(5000101,.box 102 [.nptr u1 5000101 0,.sl 5000102 0 u2.length]),(5000102,.row 5 1 0 (F cU u2))] (.tup []) [(5000101,.box 102 [.nptr false 5000101 0,.sl 5000102 0 u2.length]),(5000102,.row 5 1 0 (F cU u2))] []:=by
  unfold Zd at h;refine zf Tryz.hU Tryz.func139 (fun _ _ _ hB=> ?_);refine z.b0.d.g ?_
  cases u1 with
  |true=>
    replace h:=bif_t h
    refine z.p0.x.d9.e.o4.g ?_;refine l_nat (noEscape_spec Tryz.func193 (.ptr 5000101 0:AV)) ?_;refine l_fromunsafe (P:=Tryz.prog) ?_;refine z.c4.n4.b8.g ?_;apply za [(5000101,5000101),(5000102,5000102)] hB h
  |false=>
    replace h:=bif_f h
    refine z.R.f8.e.p8.j0.d.f8.e.o4.g ?_;apply za [(5000101,5000101),(5000102,5000102)] hB h
theorem zi {u1:Str}{u2:Bool}{u3:(List UInt8)}{r:Int×(List UInt8)}(h:zd u1 u2 u3=some r):XSpec Tryz.prog 78 [.ptr 4000101 0,S u1] [(4000101,.box 102 [.nptr u2 4000101 0,.sl 4000102 0 u3.length]),(4000102,.row 5 1 0 (F cU u3))] (.tup [I r.1,.pl .nilIface]) [(4000101,.box 102 [.nptr false 4000101 0,.sl 4000102 0 r.2.length]),(4000102,.row 5 1 0 (F cU r.2))] [4000102]:=by
  unfold zd at h;refine zf Tryz.hU Tryz.func78 (fun _ _ _ hB=> ?_);refine z.C.a9.g ?_;refine zh [(5000101,4000101),(5000102,4000102)] [4000101,4000102] h (fun _=>strings_Builder_copyCheck_s2_ok) (fun v1 _ h=> ?_);refine z.j0.i.e.g ?_;refine l_apps h (fun v2 _ h=> ?_);refine z.J.a2.d.k6.g ?_;apply za [(4000101,4000101),(4000102,4000102)] hB h
theorem zF {u1:Bool}{u2:(List UInt8)}{r:Str}(h:zv u1 u2=some r):XSpec Tryz.prog 79 [.ptr 6000101 0] [(6000101,.box 102 [.nptr u1 6000101 0,.sl 6000102 0 u2.length]),(6000102,.row 5 1 0 (F cU u2))] (S r) [(6000101,.box 102 [.nptr u1 6000101 0,.junk])] [6000102]:=by
  unfold zv at h;refine zf Tryz.hU Tryz.func79 (fun _ _ _ hB=> ?_);refine z.j4.g ?_;refine Zt [10] (.q 0 (.q 1 (.q 2 (.q 3 (.q 5 (.q 6 (.q 7 (.q 8 (.q 9 (.e 4 (.e 10 (.q 11 (.done))))))))))))) hm ?_;refine z.A.r0.A.m8.b.f0.f0.g ?_;refine n_ustr h (fun v1 _ h=> ?_);refine z.j5.h6.m2.b.g ?_;apply za [(6000101,6000101)] hB h
theorem strings_Replace_ok {s:Str}{old:Str}{new:Str}{n:Int}{r:Str}(h:Jv s old new n=some r):XSpec Tryz.prog 157 [S s,S old,S new,I n] [] (S r) [] []:=by
  unfold Jv at h;refine zf Tryz.hU Tryz.func157 (fun _ _ _ hB=> ?_);refine z.e1.c.g ?_;refine qP (fun q1=>(.normal,⟨[(0,S s),(1,S old),(2,S new),(3,I n),(22,B q1)],[],[]⟩)) h (fun t h=> ?_) (fun q1 h=> ?_)
  · refine z.a.b3.x.g ?_;refine zc h (fun _ h=> ?_) (fun _ h=> ?_)
    · refine z.N.m.g ?_;exact zp [] hB h
    refine z.c2.v.g ?_;exact zp [] hB h
  refine f_t ?_;refine zo h (fun _ h=> ?_) (fun _ h=> ?_)
  · refine z.h9.h.d.g ?_;apply za [] hB h
  refine z.i.d8.g ?_;refine zn h (fun _=>strings_Count_ok) (fun v2 _ h=> ?_);refine z.q.C.g ?_;refine zo h (fun _ h=> ?_) (fun _ h=> ?_)
  · refine z.h9.h.d.g ?_;apply za [] hB h
  refine k_seq ?_;refine qP (fun q3=>(.normal,⟨[(0,S s),(1,S old),(2,S new),(3,I n),(9,I v2),(36,B q3)],[],[]⟩)) h (fun t h=> ?_) (fun q3 h=> ?_)
  · refine z.s.k.g ?_;refine zc h (fun _ h=> ?_) (fun _ h=> ?_)
    · refine z.N.j.g ?_;exact zp [] hB h
    refine z.c2.v.w.g ?_;exact zp [] hB h
  refine f_t ?_;refine zo h (fun _ h=> ?_) (fun _ h=> ?_)
  · refine z.d4.n1.U.a2.a.a2.k7.a2.c5.d1.c.o.k.g ?_;refine l_npcell (b:=1010) (j:=0) 1010 0 ?_;refine zh [(1000101,1010),(1000151,104851)] [1010] h (fun _=>JR) (fun v4 _ h=> ?_);refine z.q.a2.f1.e.g ?_;refine zo h (fun _ h=> ?_) (fun _ h=> ?_)
    · refine z.m3.i.g ?_;refine zE (fun y5=>⟨[(0,S s),(1,S old),(2,S new),(10,.ptr 1010 0),(11,I y5.1),(52,I v2),(53,I y5.2.1)],[(1010,.box 102 [.nptr false 1010 0,.sl 104851 0 y5.2.2.length]),(104851,.row 5 1 0 (F cU y5.2.2))],[]⟩) (fun q11=>(.exit 0,⟨[(0,S s),(10,.ptr 1010 0),(11,I q11.1)],[(1010,.box 102 [.nptr false 1010 0,.sl 104851 0 q11.2.length]),(104851,.row 5 1 0 (F cU q11.2))],[]⟩)) [(1010,1010),(104851,104851)] hB h (fun y5 t h=> ?_) (fun q11 h=> ?_)
      · unfold ZH at h;refine z.b6.g ?_;refine zo h (fun _ h=> ?_) (fun _ h=> ?_)
        · refine z.a.i.a1.g ?_;refine Zp h (fun v6 _ h=> ?_);refine l_move ?_;refine zn h (fun _=>strings_Index_ok) (fun v7 _ h=> ?_);refine z.a.T.d4.g ?_;refine Zp h (fun v8 _ h=> ?_);refine zh [(4000101,1010),(4000102,104851)] [1010,104851] h (fun _=>zi) (fun v9 _ h=> ?_);refine z.c5.g ?_;refine zh [(4000101,1010),(4000102,104851)] [1010,104851] h (fun _=>zi) (fun v10 _ h=> ?_);refine z.c9.l6.a2.x.e.g ?_;exact zt [(1010,1010),(104851,104851)] hB h
        refine z.l.g ?_;exact zr [(1010,1010),(104851,104851)] hB h
      refine z.i.P.g ?_;refine Zp h (fun v12 _ h=> ?_);refine zh [(4000101,1010),(4000102,104851)] [1010,104851] h (fun _=>zi) (fun v13 _ h=> ?_);refine z.c.e.g ?_;refine zh [(6000101,1010),(6000102,104851)] [1010,104851] h (fun _=>zF) (fun v14 _ h=> ?_);refine z.h.g ?_;apply za [] hB h
    refine z.d.g ?_;refine zh [(4000101,1010),(4000102,104851)] [1010,104851] h (fun _=>zi) (fun v15 _ h=> ?_);refine z.p1.U.c5.g ?_;refine zE (fun y16=>⟨[(0,S s),(2,S new),(10,.ptr 1010 0),(11,I y16.1),(77,I (w64 (v2-1))),(78,I y16.2.1)],[(1010,.box 102 [.nptr false 1010 0,.sl 104851 0 y16.2.2.length]),(104851,.row 5 1 0 (F cU y16.2.2))],[104851]⟩) (fun q22=>(.exit 2,⟨[(0,S s),(10,.ptr 1010 0),(11,I q22.1)],[(1010,.box 102 [.nptr false 1010 0,.sl 104851 0 q22.2.length]),(104851,.row 5 1 0 (F cU q22.2))],[104851]⟩)) [(1010,1010),(104851,104851)] hB h (fun y16 t h=> ?_) (fun q22 h=> ?_)
    · unfold strings_Replace_b2 at h;refine z.b6.g ?_;refine zo h (fun _ h=> ?_) (fun _ h=> ?_)
      · refine z.i.a1.g ?_;refine Zp h (fun v17 _ h=> ?_);refine zn h (fun _=>JP) (fun v18 _ h=> ?_);refine z.a.T.d4.T.b7.g ?_;refine Zp h (fun v19 _ h=> ?_);refine zh [(4000101,1010),(4000102,104851)] [1010,104851] h (fun _=>zi) (fun v20 _ h=> ?_);refine z.c5.g ?_;refine zh [(4000101,1010),(4000102,104851)] [1010,104851] h (fun _=>zi) (fun v21 _ h=> ?_);refine z.c9.y.k.e.g ?_;exact zt [(1010,1010),(104851,104851)] hB h
      refine z.l.g ?_;exact zr [(1010,1010),(104851,104851)] hB h
    refine z.i.P.g ?_;refine Zp h (fun v23 _ h=> ?_);refine zh [(4000101,1010),(4000102,104851)] [1010,104851] h (fun _=>zi) (fun v24 _ h=> ?_);refine z.c.e.g ?_;refine zh [(6000101,1010),(6000102,104851)] [1010,104851] h (fun _=>zF) (fun v25 _ h=> ?_);refine z.h.g ?_;apply za [] hB h
  refine z.d4.n1.U.a2.a.a2.k7.a2.c5.d1.c.H.g ?_;refine l_npcell (b:=1010) (j:=0) 1010 0 ?_;refine zh [(1000101,1010),(1000151,104851)] [1010] h (fun _=>JR) (fun v26 _ h=> ?_);refine z.q.a2.f1.e.g ?_;refine zo h (fun _ h=> ?_) (fun _ h=> ?_)
  · refine z.m3.i.g ?_;refine zE (fun y27=>⟨[(0,S s),(1,S old),(2,S new),(10,.ptr 1010 0),(11,I y27.1),(52,I n),(53,I y27.2.1)],[(1010,.box 102 [.nptr false 1010 0,.sl 104851 0 y27.2.2.length]),(104851,.row 5 1 0 (F cU y27.2.2))],[]⟩) (fun q33=>(.exit 0,⟨[(0,S s),(10,.ptr 1010 0),(11,I q33.1)],[(1010,.box 102 [.nptr false 1010 0,.sl 104851 0 q33.2.length]),(104851,.row 5 1 0 (F cU q33.2))],[]⟩)) [(1010,1010),(104851,104851)] hB h (fun y27 t h=> ?_) (fun q33 h=> ?_)
    · unfold strings_Replace_b3 at h;refine z.b6.g ?_;refine zo h (fun _ h=> ?_) (fun _ h=> ?_)
      · refine z.a.i.a1.g ?_;refine Zp h (fun v28 _ h=> ?_);refine l_move ?_;refine zn h (fun _=>strings_Index_ok) (fun v29 _ h=> ?_);refine z.a.T.d4.g ?_;refine Zp h (fun v30 _ h=> ?_);refine zh [(4000101,1010),(4000102,104851)] [1010,104851] h (fun _=>zi) (fun v31 _ h=> ?_);refine z.c5.g ?_;refine zh [(4000101,1010),(4000102,104851)] [1010,104851] h (fun _=>zi) (fun v32 _ h=> ?_);refine z.c9.l6.a2.x.e.g ?_;exact zt [(1010,1010),(104851,104851)] hB h
      refine z.l.g ?_;exact zr [(1010,1010),(104851,104851)] hB h
    refine z.i.P.g ?_;refine Zp h (fun v34 _ h=> ?_);refine zh [(4000101,1010),(4000102,104851)] [1010,104851] h (fun _=>zi) (fun v35 _ h=> ?_);refine z.c.e.g ?_;refine zh [(6000101,1010),(6000102,104851)] [1010,104851] h (fun _=>zF) (fun v36 _ h=> ?_);refine z.h.g ?_;apply za [] hB h
  refine z.d.g ?_;refine zh [(4000101,1010),(4000102,104851)] [1010,104851] h (fun _=>zi) (fun v37 _ h=> ?_);refine z.p1.U.c5.g ?_;refine zE (fun y38=>⟨[(0,S s),(2,S new),(10,.ptr 1010 0),(11,I y38.1),(77,I (w64 (n-1))),(78,I y38.2.1)],[(1010,.box 102 [.nptr false 1010 0,.sl 104851 0 y38.2.2.length]),(104851,.row 5 1 0 (F cU y38.2.2))],[104851]⟩) (fun q44=>(.exit 2,⟨[(0,S s),(10,.ptr 1010 0),(11,I q44.1)],[(1010,.box 102 [.nptr false 1010 0,.sl 104851 0 q44.2.length]),(104851,.row 5 1 0 (F cU q44.2))],[104851]⟩)) [(1010,1010),(104851,104851)] hB h (fun y38 t h=> ?_) (fun q44 h=> ?_)
  · unfold strings_Replace_b4 at h;refine z.b6.g ?_;refine zo h (fun _ h=> ?_) (fun _ h=> ?_)
    · refine z.i.a1.g ?_;refine Zp h (fun v39 _ h=> ?_);refine zn h (fun _=>JP) (fun v40 _ h=> ?_);refine z.a.T.d4.T.b7.g ?_;refine Zp h (fun v41 _ h=> ?_);refine zh [(4000101,1010),(4000102,104851)] [1010,104851] h (fun _=>zi) (fun v42 _ h=> ?_);refine z.c5.g ?_;refine zh [(4000101,1010),(4000102,104851)] [1010,104851] h (fun _=>zi) (fun v43 _ h=> ?_);refine z.c9.y.k.e.g ?_;exact zt [(1010,1010),(104851,104851)] hB h
    refine z.l.g ?_;exact zr [(1010,1010),(104851,104851)] hB h
  refine z.i.P.g ?_;refine Zp h (fun v45 _ h=> ?_);refine zh [(4000101,1010),(4000102,104851)] [1010,104851] h (fun _=>zi) (fun v46 _ h=> ?_);refine z.c.e.g ?_;refine zh [(6000101,1010),(6000102,104851)] [1010,104851] h (fun _=>zF) (fun v47 _ h=> ?_);refine z.h.g ?_;apply za [] hB h
theorem strings_ReplaceAll_ok {s:Str}{old:Str}{new:Str}{r:Str}(h:Qi s old new=some r):XSpec Tryz.prog 98 [S s,S old,S new] [] (S r) [] []:=by
  unfold Qi at h;refine zf Tryz.hU Tryz.func98 (fun _ _ _ hB=> ?_);refine z.a.k1.g ?_;refine zn h (fun _=>strings_Replace_ok) (fun v1 _ h=> ?_);refine z.h.g ?_;apply za [] hB h
theorem chars_Lines_ok {s:Str}{r:Str}(h:chars_Lines s=some r):XSpec Tryz.prog 59 [S s] [] (S r) [] []:=by
  unfold chars_Lines at h;refine zf Tryz.hU Tryz.func59 (fun _ _ _ hB=> ?_);refine z.a4.g ?_;refine zn h (fun _=>strings_ReplaceAll_ok) (fun v1 _ h=> ?_);refine zn h (fun _=>strings_ReplaceAll_ok) (fun v2 _ h=> ?_);refine z.h.g ?_;apply za [] hB h
theorem J3 {c:UInt8}{r:Bool}(h:Qk c=some r):XSpec Tryz.prog 99 [U c] [] (B r) [] []:=by
  unfold Qk at h;refine zf Tryz.hU Tryz.func99 (fun _ _ _ hB=> ?_);refine z.s.a4.g ?_;refine zc h (fun _ h=> ?_) (fun _ h=> ?_)
  · refine z.a5.m.b2.m.b2.m.g ?_;apply za [] hB h
  refine z.r.v.g ?_;refine zc h (fun _ h=> ?_) (fun _ h=> ?_)
  · refine z.a5.m.b2.m.g ?_;apply za [] hB h
  refine z.r.v.g ?_;refine zc h (fun _ h=> ?_) (fun _ h=> ?_)
  · refine z.a5.m.g ?_;apply za [] hB h
  refine z.c3.v.g ?_;apply za [] hB h
theorem J4 {s:Str}{prefix_:Str}{r:Bool}(h:qR s prefix_=some r):XSpec Tryz.prog 158 [S s,S prefix_] [] (B r) [] []:=by
  unfold qR at h;refine zf Tryz.hU Tryz.func158 (fun _ _ _ hB=> ?_);refine z.s.a2.a.a2.a4.g ?_;refine zc h (fun _ h=> ?_) (fun _ h=> ?_)
  · refine z.a8.a2.f.w.g ?_;refine Zp h (fun v1 _ h=> ?_);refine z.a5.b3.f.g ?_;apply za [] hB h
  refine z.c3.k5.g ?_;apply za [] hB h
theorem strings_HasPrefix_ok {s:Str}{prefix_:Str}{r:Bool}(h:ZT s prefix_=some r):XSpec Tryz.prog 101 [S s,S prefix_] [] (B r) [] []:=by
  unfold ZT at h;refine zf Tryz.hU Tryz.func101 (fun _ _ _ hB=> ?_);refine z.k1.g ?_;refine zn h (fun _=>J4) (fun v1 _ h=> ?_);refine z.h.g ?_;apply za [] hB h
theorem stringslite_CutPrefix_ok {s:Str}{prefix_:Str}{r:Str×Bool}(h:Qm s prefix_=some r):XSpec Tryz.prog 197 [S s,S prefix_] [] (.tup [S r.1,B r.2]) [] []:=by
  unfold Qm at h;refine zf Tryz.hU Tryz.func197 (fun _ _ _ hB=> ?_);refine z.i.c0.a9.g ?_;refine zn h (fun _=>J4) (fun v1 _ h=> ?_);refine z.d3.g ?_;refine zo h (fun _ h=> ?_) (fun _ h=> ?_)
  · refine z.f5.d.g ?_;apply za [] hB h
  refine z.a2.h1.g ?_;refine Zp h (fun v2 _ h=> ?_);refine z.J.g ?_;apply za [] hB h
theorem JO {s:Str}{prefix_:Str}{r:Str×Bool}(h:Zr s prefix_=some r):XSpec Tryz.prog 144 [S s,S prefix_] [] (.tup [S r.1,B r.2]) [] []:=by
  unfold Zr at h;refine zf Tryz.hU Tryz.func144 (fun _ _ _ hB=> ?_);refine z.T.a9.g ?_;refine zn h (fun _=>stringslite_CutPrefix_ok) (fun v1 _ h=> ?_);refine z.J.n7.g ?_;apply za [] hB h
theorem Zu {s:Str}{substr:Str}{r:Bool}(h:qk s substr=some r):XSpec Tryz.prog 211 [S s,S substr] [] (B r) [] []:=by
  unfold qk at h;refine zf Tryz.hU Tryz.func211 (fun _ _ _ hB=> ?_);refine z.k1.g ?_;refine zn h (fun _=>strings_Index_ok) (fun v1 _ h=> ?_);refine z.h.e5.g ?_;apply za [] hB h
theorem stringslite_Cut_ok {s:Str}{sep:Str}{r:Str×Str×Bool}(h:J9 s sep=some r):XSpec Tryz.prog 212 [S s,S sep] [] (.tup [S r.1,S r.2.1,B r.2.2]) [] []:=by
  unfold J9 at h;refine zf Tryz.hU Tryz.func212 (fun _ _ _ hB=> ?_);refine z.i.c0.D.a9.g ?_;refine zn h (fun _=>stringslite_Index_ok) (fun v1 _ h=> ?_);refine z.q.C.g ?_;refine zo h (fun _ h=> ?_) (fun _ h=> ?_)
  · refine k_seq ?_;refine Zt [] (.q 0 (.q 1 (.q 2 (.q 3 (.q 4 (.q 5 (.q 6 (.q 7 (.q 8 (.q 9 (.q 10 (.q 11 (.done))))))))))))) hm ?_;refine z.h2.g ?_;refine n_subs h (fun v2 _ h=> ?_);refine z.b.n0.b.s3.h2.e0.g ?_;refine n_subs h (fun v3 _ h=> ?_);refine z.h9.j5.h6.m2.b.m2.b.m2.b.g ?_;apply za [] hB h
  refine z.J.D.B.g ?_;apply za [] hB h
theorem qW {s:Str}{sep:Str}{r:Str×Str×Bool}(h:qd s sep=some r):XSpec Tryz.prog 161 [S s,S sep] [] (.tup [S r.1,S r.2.1,B r.2.2]) [] []:=by
  unfold qd at h;refine zf Tryz.hU Tryz.func161 (fun _ _ _ hB=> ?_);refine z.T.D.a9.g ?_;refine zn h (fun _=>stringslite_Cut_ok) (fun v1 _ h=> ?_);refine z.J.D.j7.n7.g ?_;apply za [] hB h
theorem parse_fold_ok {s:Str}{r:Str}(h:parse_fold s=some r):XSpec Tryz.prog 160 [S s] [] (S r) [] []:=by
  unfold parse_fold at h;refine zf Tryz.hU Tryz.func160 (fun _ _ _ hB=> ?_);refine z.e9.L.o5.a4.g ?_;refine zE (fun y1=>⟨[(3,.sl 1007 0 y1.2.length),(8,.sl 1007 0 y1.2.length),(9,I (s.length:Int)),(10,I y1.1)],[(1007,.row 5 1 0 (F cU y1.2))],[]⟩) (fun q5=>(.exit 0,⟨[(3,.sl 1007 0 q5.length)],[(1007,.row 5 1 0 (F cU q5))],[]⟩)) [(1007,1007)] hB h (fun y1 t h=> ?_) (fun q5 h=> ?_)
  · unfold QH at h;refine z.b6.g ?_;refine zo h (fun _ h=> ?_) (fun _ h=> ?_)
    · refine z.k8.g ?_;refine QO h (fun v2 ev2 h=> ?_);refine Qu ev2 ?_;refine z.s.C.D.g ?_;refine zc h (fun _ h=> ?_) (fun _ h=> ?_)
      · refine z.h8.v.g ?_;refine zo h (fun _ h=> ?_) (fun _ h=> ?_)
        · refine z.a.x.g ?_;refine l_addU v2 97 ?_;refine l_subU (v2+97) 65 ?_;refine QO h (fun v3 ev3 h=> ?_);refine l_put0 ev3 h (fun v4 ev4 h=> ?_);refine z.c9.c4.g ?_;refine qA 3 v4.length ?_;refine qA 8 v4.length ?_;exact zt [(1007,1007)] hB h
        refine z.e6.g ?_;exact zt [(1007,1007)] hB h
      refine z.e6.h0.m.g ?_;exact zt [(1007,1007)] hB h
    refine z.l.g ?_;exact zr [(1007,1007)] hB h
  refine z.h.p5.k3.g ?_;apply za [] hB h
theorem name_in_ok {r_:Int}{l:(List z8)}{r:Bool}(h:name_in r_ l=some r):XSpec Tryz.prog 236 [.pl (.int .i32 r_),.vs l.length (F c_TSpan l)] [] (B r) [] []:=by
  unfold name_in at h;refine zf Tryz.hU Tryz.func236 (fun _ _ _ hB=> ?_);refine z.e9.f1.g ?_;refine zE (fun y1=>⟨[(0,.pl (.int .i32 r_)),(7,.vs l.length (F c_TSpan l)),(8,I (l.length:Int)),(9,I y1)],[],[]⟩) (Sum.elim (fun q3=>(.ret,⟨[(4,B true)],[],[]⟩)) (fun q4=>(.exit 0,⟨[],[],[]⟩))) [] hB h (fun y1 t h=> ?_) (fun q h=> ?_)
  · unfold JS at h;refine z.b6.g ?_;refine zo h (fun _ h=> ?_) (fun _ h=> ?_)
    · refine z.c.a1.g ?_;refine Qd h (fun v2 _ h=> ?_);refine z.s.M.d.d2.d1.d6.g ?_;refine zc h (fun _ h=> ?_) (fun _ h=> ?_)
      · refine z.h8.e5.o6.f.g ?_;refine zo h (fun _ h=> ?_) (fun _ h=> ?_)
        · refine z.l7.g ?_;exact zr [] hB h
        refine z.e6.g ?_;exact zt [] hB h
      refine z.e6.h0.n.g ?_;exact zt [] hB h
    refine z.l.g ?_;exact zr [] hB h
  rcases q with q3|q4
  · dsimp only [Sum.elim] at h ⊢
    refine z.p.g ?_;apply za [] hB h
  dsimp only [Sum.elim] at h ⊢
  refine z.a0.P.g ?_;apply za [] hB h
theorem name_Begins_ok {r_:Int}{r:Bool}(h:zaq r_=some r):XSpec Tryz.prog 195 [.pl (.int .i32 r_)] [] (B r) [] []:=by
  unfold zaq at h;refine zf Tryz.hU Tryz.func195 (fun _ _ _ hB=> ?_);refine z.s.a4.g ?_;refine zc h (fun _ h=> ?_) (fun _ h=> ?_)
  · refine z.a5.b9.n.n.n.n.g ?_;apply za [] hB h
  refine z.j1.j1.j1.j1.j1.j1.j1.j1.j1.j1.j1.j1.j1.j1.f.g ?_;refine Qz (e:=c_TSpan) [(z8.mk 65 90),(z8.mk 97 122),(z8.mk 192 214),(z8.mk 216 246),(z8.mk 248 767),(z8.mk 880 893),(z8.mk 895 8191),(z8.mk 8204 8205),(z8.mk 8304 8591),(z8.mk 11264 12271),(z8.mk 12289 55295),(z8.mk 63744 64975),(z8.mk 65008 65533),(z8.mk 65536 983039)] ?_;refine l_on ?_;refine l_callB h (fun _=>name_in_ok) (fun v1 _ h=> ?_);refine z.c3.g ?_;apply za [] hB h
theorem name_Stands_ok {r_:Int}{r:Bool}(h:zal r_=some r):XSpec Tryz.prog 196 [.pl (.int .i32 r_)] [] (B r) [] []:=by
  unfold zal at h;refine zf Tryz.hU Tryz.func196 (fun _ _ _ hB=> ?_);refine z.a4.g ?_;refine zn h (fun _=>name_Begins_ok) (fun v1 _ h=> ?_);refine l_move ?_;refine zc h (fun _ h=> ?_) (fun _ h=> ?_)
  · refine z.a5.m.I.m.b2.m.b2.m.g ?_;apply za [] hB h
  refine z.r.v.g ?_;refine zc h (fun _ h=> ?_) (fun _ h=> ?_)
  · refine z.a5.m.I.m.b2.m.g ?_;apply za [] hB h
  refine z.r.v.g ?_;refine zc h (fun _ h=> ?_) (fun _ h=> ?_)
  · refine z.a5.m.I.m.g ?_;apply za [] hB h
  refine z.r.v.g ?_;refine zc h (fun _ h=> ?_) (fun _ h=> ?_)
  · refine z.a5.k5.g ?_;apply za [] hB h
  refine z.j1.j1.j1.f.g ?_;refine Qz (e:=c_TSpan) [(z8.mk 48 57),(z8.mk 768 879),(z8.mk 8255 8256)] ?_;refine l_on ?_;refine l_callB h (fun _=>name_in_ok) (fun v2 _ h=> ?_);refine z.c3.g ?_;apply za [] hB h
theorem Qf {s:Str}{r:Bool}(h:Jj s=some r):XSpec Tryz.prog 143 [S s] [] (B r) [] []:=by
  unfold Jj at h;refine zf Tryz.hU Tryz.func143 (fun _ _ _ hB=> ?_);refine z.o5.a4.g ?_;refine l_frz 1009 ?_;refine zh [(1,101001)] [] h (fun _=>utf_Chars_ok) (fun v1 _ h=> ?_);refine z.h3.L.b7.g ?_;refine zc h (fun _ h=> ?_) (fun _ h=> ?_)
  · refine z.Y.i0.b9.I.j.g ?_;apply za [] hB h
  refine z.r.c7.K.f.g ?_;refine zc h (fun _ h=> ?_) (fun _ h=> ?_)
  · refine z.Y.i0.b9.n.g ?_;apply za [] hB h
  refine z.f.g ?_;refine QO h (fun v2 ev2 h=> ?_);refine l_on ?_;refine Qu ev2 ?_;refine l_on ?_;refine zn h (fun _=>name_Begins_ok) (fun v3 _ h=> ?_);refine z.d5.X.g ?_;refine zo h (fun _ h=> ?_) (fun _ h=> ?_)
  · refine z.Y.g ?_;apply za [] hB h
  refine z.e9.d.d8.g ?_;refine zE (fun y4=>⟨[(27,.sl 101001 0 v1.1.length),(28,I (v1.1.length:Int)),(29,I y4)],[(101001,.row 21 1 0 (F cR v1.1))],[]⟩) (Sum.elim (fun q7=>(.ret,⟨[(2,B false)],[],[]⟩)) (fun q8=>(.exit 0,⟨[],[],[]⟩))) [(101001,101001)] hB h (fun y4 t h=> ?_) (fun q h=> ?_)
  · unfold JT at h;refine z.b6.g ?_;refine zo h (fun _ h=> ?_) (fun _ h=> ?_)
    · refine z.c.a1.g ?_;refine QO h (fun v5 ev5 h=> ?_);refine Qu ev5 ?_;refine z.C.g ?_;refine zn h (fun _=>name_Stands_ok) (fun v6 _ h=> ?_);refine z.d3.g ?_;refine zo h (fun _ h=> ?_) (fun _ h=> ?_)
      · refine z.l7.g ?_;exact zr [] hB h
      refine z.e6.g ?_;exact zt [(101001,101001)] hB h
    refine z.l.g ?_;exact zr [] hB h
  rcases q with q7|q8
  · dsimp only [Sum.elim] at h ⊢
    refine z.p.g ?_;apply za [] hB h
  dsimp only [Sum.elim] at h ⊢
  refine z.a0.P.g ?_;apply za [] hB h
theorem name_Split_ok {s:Str}{r:Str×Str×Bool}(h:name_Split s=some r):XSpec Tryz.prog 165 [S s] [] (.tup [S r.1,S r.2.1,B r.2.2]) [] []:=by
  unfold name_Split at h;refine zf Tryz.hU Tryz.func165 (fun _ _ _ hB=> ?_);refine z.C.D.a9.g ?_;refine zn h (fun _=>qW) (fun v1 _ h=> ?_);refine z.d3.L.D.D.j7.k4.g ?_;refine zo h (fun _ h=> ?_) (fun _ h=> ?_)
  · refine z.i.c0.D.k.g ?_;refine zc h (fun _ h=> ?_) (fun _ h=> ?_)
    · refine z.f.g ?_;refine zn h (fun _=>Qf) (fun v2 _ h=> ?_);refine z.b2.X.g ?_;refine zc h (fun _ h=> ?_) (fun _ h=> ?_)
      · refine z.f5.a9.i0.j.g ?_;apply za [] hB h
      refine z.f.g ?_;refine zn h (fun _=>Qf) (fun v3 _ h=> ?_);refine z.d5.X.g ?_;refine zo h (fun _ h=> ?_) (fun _ h=> ?_)
      · refine z.f5.a9.g ?_;apply za [] hB h
      refine z.J.D.h1.g ?_;apply za [] hB h
    refine z.f.r.j.g ?_;refine zn h (fun _=>Qf) (fun v4 _ h=> ?_);refine z.d5.X.g ?_;refine zo h (fun _ h=> ?_) (fun _ h=> ?_)
    · refine z.f5.a9.g ?_;apply za [] hB h
    refine z.J.D.h1.g ?_;apply za [] hB h
  refine z.i.d8.g ?_;refine zc h (fun _ h=> ?_) (fun _ h=> ?_)
  · refine z.f.g ?_;refine zn h (fun _=>Qf) (fun v5 _ h=> ?_);refine z.b2.X.g ?_;refine zc h (fun _ h=> ?_) (fun _ h=> ?_)
    · refine z.f5.a9.i0.j.g ?_;apply za [] hB h
    refine z.f.g ?_;refine zn h (fun _=>Qf) (fun v6 _ h=> ?_);refine z.d5.X.g ?_;refine zo h (fun _ h=> ?_) (fun _ h=> ?_)
    · refine z.f5.a9.g ?_;apply za [] hB h
    refine z.J.D.h1.g ?_;apply za [] hB h
  refine z.f.r.j.g ?_;refine zn h (fun _=>Qf) (fun v7 _ h=> ?_);refine z.d5.X.g ?_;refine zo h (fun _ h=> ?_) (fun _ h=> ?_)
  · refine z.f5.a9.g ?_;apply za [] hB h
  refine z.J.D.h1.g ?_;apply za [] hB h
theorem atomic_b32_ok {b:Bool}{r:Int}(h:atomic_b32 b=some r):XSpec Tryz.prog 289 [B b] [] (.pl (.int .u32 r)) [] []:=by
  unfold atomic_b32 at h;refine zf Tryz.hU Tryz.func289 (fun _ _ _ hB=> ?_);refine z.e.f1.g ?_;refine zo h (fun _ h=> ?_) (fun _ h=> ?_)
  · refine z.Y.g ?_;apply za [] hB h
  refine z.a0.H.g ?_;apply za [] hB h
theorem chars_named_ok {s:Str}{r:Str×Bool}(h:chars_named s=some r):XSpec Tryz.prog 266 [S s] [] (.tup [S r.1,B r.2]) [] []:=by
  unfold chars_named at h;refine zf Tryz.hU Tryz.func266 (fun _ _ _ hB=> ?_);refine z.o.b3.c.m3.L.a9.g ?_;refine zo h (fun _ h=> ?_) (fun _ h=> ?_)
  · refine z.p.J.c.g ?_;apply za [] hB h
  refine z.o.b3.c.g ?_;refine zo h (fun _ h=> ?_) (fun _ h=> ?_)
  · refine z.p.J.c.g ?_;apply za [] hB h
  refine z.o.b3.c.g ?_;refine zo h (fun _ h=> ?_) (fun _ h=> ?_)
  · refine z.p.J.c.g ?_;apply za [] hB h
  refine z.o.b3.c.g ?_;refine zo h (fun _ h=> ?_) (fun _ h=> ?_)
  · refine z.p.J.c.g ?_;apply za [] hB h
  refine z.o.b3.c.g ?_;refine zo h (fun _ h=> ?_) (fun _ h=> ?_)
  · refine z.p.J.c.g ?_;apply za [] hB h
  refine z.J.c.f2.R.g ?_;apply za [] hB h
end Go.Proofs.YtojbjdcflgeibaaGreatDoor
