/-
  WALKS, printed by aw.py: that the program's functions compute the plain ones. Conditions: none.
-/
import Derived.Test.YtipbfnjpfmmkfaaGreatDoorProg
import Derived.Test.YtipbfnjpfmmkfaaGreatDoorAbsStr
import Derived.Test.YtipbfnjpfmmkfaaGreatDoorAbsConv
import Derived.Test.YtipbfnjpfmmkfaaGreatDoorAbsGrow
import Derived.Test.YtipbfnjpfmmkfaaGreatDoorTPure
import Derived.Test.YtipbfnjpfmmkfaaGreatDoorAbsFmt
import Derived.Test.YtipbfnjpfmmkfaaGreatDoorLTWalk
set_option linter.unusedVariables false
set_option linter.unusedSimpArgs false
set_option maxRecDepth 20000
set_option maxHeartbeats 4000000
namespace Go.Proofs.YtipbfnjpfmmkfaaGreatDoor
open Go Go.Abs W G
abbrev fmtG : Nat := 3
instance : GTab := ⟨[(0, (utf8First.flatMap (fun x : UInt8 => [Value.int .u8 (x.toNat : Int)]))), (1, (utf8Ranges.flatMap (fun x : TAcceptRange => [Value.int .u8 (x.lo.toNat : Int), Value.int .u8 (x.hi.toNat : Int)]))), (3, (Go.Lib.pow10Tab.map fun z => Value.int .u64 z))], [2]⟩
def Tryz.U : List (Nat × TI) := [
  (2, ⟨.int .i64, 1, 8, .int .i64 0⟩),
  (3, ⟨.int .i64, 1, 8, .int .i64 0⟩),
  (4, ⟨.bool, 1, 1, .bool false⟩),
  (5, ⟨.int .u8, 1, 1, .int .u8 0⟩),
  (9, ⟨.string, 1, 16, .string ⟨#[]⟩⟩),
  (12, ⟨.int .u64, 1, 8, .int .u64 0⟩),
  (21, ⟨.int .i32, 1, 4, .int .i32 0⟩),
  (22, ⟨.slice 68, 1, 24, .slice none 0 0⟩),
  (29, ⟨.struct #[{ name := "N", type := 3, offset := 0, embedded := false, tag := "", pkgPath := "", byteOffset := 0 }, { name := "Part", type := 3, offset := 1, embedded := false, tag := "", pkgPath := "", byteOffset := 8 }, { name := "I", type := 3, offset := 2, embedded := false, tag := "", pkgPath := "", byteOffset := 16 }], 3, 24, .agg #[.int .i64 0, .int .i64 0, .int .i64 0]⟩),
  (38, ⟨.slice 29, 1, 24, .slice none 0 0⟩),
  (40, ⟨.struct #[{ name := "Kind", type := 3, offset := 0, embedded := false, tag := "", pkgPath := "", byteOffset := 0 }, { name := "Set", type := 38, offset := 1, embedded := false, tag := "", pkgPath := "", byteOffset := 8 }, { name := "Bool", type := 4, offset := 2, embedded := false, tag := "", pkgPath := "", byteOffset := 32 }, { name := "N", type := 2, offset := 3, embedded := false, tag := "", pkgPath := "", byteOffset := 40 }, { name := "NaN", type := 4, offset := 4, embedded := false, tag := "", pkgPath := "", byteOffset := 48 }, { name := "Text", type := 9, offset := 5, embedded := false, tag := "", pkgPath := "", byteOffset := 56 }], 6, 72, .agg #[.int .i64 0, .slice none 0 0, .bool false, .int .i64 0, .bool false, .string ⟨#[]⟩]⟩),
  (42, ⟨.struct #[{ name := "Kind", type := 5, offset := 0, embedded := false, tag := "", pkgPath := "", byteOffset := 0 }, { name := "Set", type := 38, offset := 1, embedded := false, tag := "", pkgPath := "", byteOffset := 8 }, { name := "Bool", type := 4, offset := 2, embedded := false, tag := "", pkgPath := "", byteOffset := 32 }, { name := "N", type := 2, offset := 3, embedded := false, tag := "", pkgPath := "", byteOffset := 40 }, { name := "NaN", type := 4, offset := 4, embedded := false, tag := "", pkgPath := "", byteOffset := 48 }, { name := "Text", type := 9, offset := 5, embedded := false, tag := "", pkgPath := "", byteOffset := 56 }], 6, 72, .agg #[.int .u8 0, .slice none 0 0, .bool false, .int .i64 0, .bool false, .string ⟨#[]⟩]⟩),
  (44, ⟨.pointer 141, 1, 8, .pointer none⟩),
  (45, ⟨.int .i64, 1, 8, .int .i64 0⟩),
  (48, ⟨.slice 5, 1, 24, .slice none 0 0⟩),
  (49, ⟨.pointer 99, 1, 8, .pointer none⟩),
  (55, ⟨.struct #[{ name := "P", type := 29, offset := 0, embedded := false, tag := "", pkgPath := "", byteOffset := 0 }, { name := "Position", type := 3, offset := 3, embedded := false, tag := "", pkgPath := "", byteOffset := 24 }, { name := "Size", type := 3, offset := 4, embedded := false, tag := "", pkgPath := "", byteOffset := 32 }], 5, 40, .agg #[.int .i64 0, .int .i64 0, .int .i64 0, .int .i64 0, .int .i64 0]⟩),
  (68, ⟨.struct #[{ name := "Prefix", type := 9, offset := 0, embedded := false, tag := "", pkgPath := "", byteOffset := 0 }, { name := "URI", type := 9, offset := 1, embedded := false, tag := "", pkgPath := "", byteOffset := 16 }], 2, 32, .agg #[.string ⟨#[]⟩, .string ⟨#[]⟩]⟩),
  (79, ⟨.slice 9, 1, 24, .slice none 0 0⟩),
  (81, ⟨.slice 89, 1, 24, .slice none 0 0⟩),
  (86, ⟨.pointer 95, 1, 8, .pointer none⟩),
  (87, ⟨.slice 120, 1, 24, .slice none 0 0⟩),
  (89, ⟨.struct #[{ name := "Kind", type := 3, offset := 0, embedded := false, tag := "", pkgPath := "", byteOffset := 0 }, { name := "Parent", type := 3, offset := 1, embedded := false, tag := "", pkgPath := "", byteOffset := 8 }, { name := "Prefix", type := 9, offset := 2, embedded := false, tag := "", pkgPath := "", byteOffset := 16 }, { name := "Local", type := 9, offset := 3, embedded := false, tag := "", pkgPath := "", byteOffset := 32 }, { name := "URI", type := 9, offset := 4, embedded := false, tag := "", pkgPath := "", byteOffset := 48 }, { name := "Text", type := 9, offset := 5, embedded := false, tag := "", pkgPath := "", byteOffset := 64 }, { name := "Decls", type := 22, offset := 6, embedded := false, tag := "", pkgPath := "", byteOffset := 80 }, { name := "Attrs", type := 87, offset := 7, embedded := false, tag := "", pkgPath := "", byteOffset := 104 }], 8, 128, .agg #[.int .i64 0, .int .i64 0, .string ⟨#[]⟩, .string ⟨#[]⟩, .string ⟨#[]⟩, .string ⟨#[]⟩, .slice none 0 0, .slice none 0 0]⟩),
  (90, ⟨.slice 168, 1, 24, .slice none 0 0⟩),
  (91, ⟨.pointer 93, 1, 8, .pointer none⟩),
  (93, ⟨.struct #[{ name := "addr", type := 91, offset := 0, embedded := false, tag := "", pkgPath := "strings", byteOffset := 0 }, { name := "buf", type := 48, offset := 1, embedded := false, tag := "", pkgPath := "strings", byteOffset := 8 }], 2, 32, .agg #[.pointer none, .slice none 0 0]⟩),
  (95, ⟨.struct #[{ name := "s", type := 9, offset := 0, embedded := false, tag := "", pkgPath := "apostille/parse", byteOffset := 0 }, { name := "l", type := 81, offset := 1, embedded := false, tag := "", pkgPath := "apostille/parse", byteOffset := 16 }, { name := "path", type := 90, offset := 2, embedded := false, tag := "", pkgPath := "apostille/parse", byteOffset := 40 }, { name := "text", type := 93, offset := 3, embedded := false, tag := "", pkgPath := "apostille/parse", byteOffset := 64 }, { name := "top", type := 4, offset := 5, embedded := false, tag := "", pkgPath := "apostille/parse", byteOffset := 96 }], 6, 104, .agg #[.string ⟨#[]⟩, .slice none 0 0, .slice none 0 0, .pointer none, .slice none 0 0, .bool false]⟩),
  (97, ⟨.map 9 3, 1, 8, .map none⟩),
  (99, ⟨.struct #[{ name := "Doc", type := 44, offset := 0, embedded := true, tag := "", pkgPath := "", byteOffset := 0 }, { name := "ids", type := 97, offset := 1, embedded := false, tag := "", pkgPath := "apostille/ident", byteOffset := 8 }], 2, 16, .agg #[.pointer none, .map none]⟩),
  (101, ⟨.slice 40, 1, 24, .slice none 0 0⟩),
  (103, ⟨.struct #[{ name := "least", type := 3, offset := 0, embedded := false, tag := "", pkgPath := "apostille/call", byteOffset := 0 }, { name := "most", type := 3, offset := 1, embedded := false, tag := "", pkgPath := "apostille/call", byteOffset := 8 }, { name := "set", type := 4, offset := 2, embedded := false, tag := "", pkgPath := "apostille/call", byteOffset := 16 }], 3, 24, .agg #[.int .i64 0, .int .i64 0, .bool false]⟩),
  (105, ⟨.map 9 103, 1, 8, .map none⟩),
  (108, ⟨.struct #[{ name := "x", type := 49, offset := 0, embedded := false, tag := "", pkgPath := "apostille/call", byteOffset := 0 }, { name := "at", type := 55, offset := 1, embedded := false, tag := "", pkgPath := "apostille/call", byteOffset := 8 }, { name := "args", type := 101, offset := 6, embedded := false, tag := "", pkgPath := "apostille/call", byteOffset := 48 }], 7, 72, .agg #[.pointer none, .int .i64 0, .int .i64 0, .int .i64 0, .int .i64 0, .int .i64 0, .slice none 0 0]⟩),
  (113, ⟨.slice 3, 1, 24, .slice none 0 0⟩),
  (120, ⟨.struct #[{ name := "Prefix", type := 9, offset := 0, embedded := false, tag := "", pkgPath := "", byteOffset := 0 }, { name := "Local", type := 9, offset := 1, embedded := false, tag := "", pkgPath := "", byteOffset := 16 }, { name := "URI", type := 9, offset := 2, embedded := false, tag := "", pkgPath := "", byteOffset := 32 }, { name := "Value", type := 9, offset := 3, embedded := false, tag := "", pkgPath := "", byteOffset := 48 }], 4, 64, .agg #[.string ⟨#[]⟩, .string ⟨#[]⟩, .string ⟨#[]⟩, .string ⟨#[]⟩]⟩),
  (129, ⟨.slice 21, 1, 24, .slice none 0 0⟩),
  (132, ⟨.func #[21] #[4] false, 1, 8, .nilFunc⟩),
  (141, ⟨.struct #[{ name := "l", type := 81, offset := 0, embedded := false, tag := "", pkgPath := "apostille/doc", byteOffset := 0 }, { name := "end", type := 113, offset := 1, embedded := false, tag := "", pkgPath := "apostille/doc", byteOffset := 24 }, { name := "top", type := 3, offset := 2, embedded := false, tag := "", pkgPath := "apostille/doc", byteOffset := 48 }], 3, 56, .agg #[.slice none 0 0, .slice none 0 0, .int .i64 0]⟩),
  (143, ⟨.func #[120] #[4] false, 1, 8, .nilFunc⟩),
  (153, ⟨.pointer 5, 1, 8, .pointer none⟩),
  (168, ⟨.struct #[{ name := "n", type := 3, offset := 0, embedded := false, tag := "", pkgPath := "apostille/parse", byteOffset := 0 }, { name := "name", type := 9, offset := 1, embedded := false, tag := "", pkgPath := "apostille/parse", byteOffset := 8 }], 2, 24, .agg #[.int .i64 0, .string ⟨#[]⟩]⟩),
  (172, ⟨.pointer 89, 1, 8, .pointer none⟩),
  (184, ⟨.unsafePointer, 1, 8, .pointer none⟩),
  (198, ⟨.map 21 3, 1, 8, .map none⟩),
  (207, ⟨.array 256 5, 256, 256, .agg #[.int .u8 0, .int .u8 0, .int .u8 0, .int .u8 0, .int .u8 0, .int .u8 0, .int .u8 0, .int .u8 0, .int .u8 0, .int .u8 0, .int .u8 0, .int .u8 0, .int .u8 0, .int .u8 0, .int .u8 0, .int .u8 0, .int .u8 0, .int .u8 0, .int .u8 0, .int .u8 0, .int .u8 0, .int .u8 0, .int .u8 0, .int .u8 0, .int .u8 0, .int .u8 0, .int .u8 0, .int .u8 0, .int .u8 0, .int .u8 0, .int .u8 0, .int .u8 0, .int .u8 0, .int .u8 0, .int .u8 0, .int .u8 0, .int .u8 0, .int .u8 0, .int .u8 0, .int .u8 0, .int .u8 0, .int .u8 0, .int .u8 0, .int .u8 0, .int .u8 0, .int .u8 0, .int .u8 0, .int .u8 0, .int .u8 0, .int .u8 0, .int .u8 0, .int .u8 0, .int .u8 0, .int .u8 0, .int .u8 0, .int .u8 0, .int .u8 0, .int .u8 0, .int .u8 0, .int .u8 0, .int .u8 0, .int .u8 0, .int .u8 0, .int .u8 0, .int .u8 0, .int .u8 0, .int .u8 0, .int .u8 0, .int .u8 0, .int .u8 0, .int .u8 0, .int .u8 0, .int .u8 0, .int .u8 0, .int .u8 0, .int .u8 0, .int .u8 0, .int .u8 0, .int .u8 0, .int .u8 0, .int .u8 0, .int .u8 0, .int .u8 0, .int .u8 0, .int .u8 0, .int .u8 0, .int .u8 0, .int .u8 0, .int .u8 0, .int .u8 0, .int .u8 0, .int .u8 0, .int .u8 0, .int .u8 0, .int .u8 0, .int .u8 0, .int .u8 0, .int .u8 0, .int .u8 0, .int .u8 0, .int .u8 0, .int .u8 0, .int .u8 0, .int .u8 0, .int .u8 0, .int .u8 0, .int .u8 0, .int .u8 0, .int .u8 0, .int .u8 0, .int .u8 0, .int .u8 0, .int .u8 0, .int .u8 0, .int .u8 0, .int .u8 0, .int .u8 0, .int .u8 0, .int .u8 0, .int .u8 0, .int .u8 0, .int .u8 0, .int .u8 0, .int .u8 0, .int .u8 0, .int .u8 0, .int .u8 0, .int .u8 0, .int .u8 0, .int .u8 0, .int .u8 0, .int .u8 0, .int .u8 0, .int .u8 0, .int .u8 0, .int .u8 0, .int .u8 0, .int .u8 0, .int .u8 0, .int .u8 0, .int .u8 0, .int .u8 0, .int .u8 0, .int .u8 0, .int .u8 0, .int .u8 0, .int .u8 0, .int .u8 0, .int .u8 0, .int .u8 0, .int .u8 0, .int .u8 0, .int .u8 0, .int .u8 0, .int .u8 0, .int .u8 0, .int .u8 0, .int .u8 0, .int .u8 0, .int .u8 0, .int .u8 0, .int .u8 0, .int .u8 0, .int .u8 0, .int .u8 0, .int .u8 0, .int .u8 0, .int .u8 0, .int .u8 0, .int .u8 0, .int .u8 0, .int .u8 0, .int .u8 0, .int .u8 0, .int .u8 0, .int .u8 0, .int .u8 0, .int .u8 0, .int .u8 0, .int .u8 0, .int .u8 0, .int .u8 0, .int .u8 0, .int .u8 0, .int .u8 0, .int .u8 0, .int .u8 0, .int .u8 0, .int .u8 0, .int .u8 0, .int .u8 0, .int .u8 0, .int .u8 0, .int .u8 0, .int .u8 0, .int .u8 0, .int .u8 0, .int .u8 0, .int .u8 0, .int .u8 0, .int .u8 0, .int .u8 0, .int .u8 0, .int .u8 0, .int .u8 0, .int .u8 0, .int .u8 0, .int .u8 0, .int .u8 0, .int .u8 0, .int .u8 0, .int .u8 0, .int .u8 0, .int .u8 0, .int .u8 0, .int .u8 0, .int .u8 0, .int .u8 0, .int .u8 0, .int .u8 0, .int .u8 0, .int .u8 0, .int .u8 0, .int .u8 0, .int .u8 0, .int .u8 0, .int .u8 0, .int .u8 0, .int .u8 0, .int .u8 0, .int .u8 0, .int .u8 0, .int .u8 0, .int .u8 0, .int .u8 0, .int .u8 0, .int .u8 0, .int .u8 0, .int .u8 0, .int .u8 0, .int .u8 0, .int .u8 0, .int .u8 0, .int .u8 0, .int .u8 0, .int .u8 0, .int .u8 0, .int .u8 0, .int .u8 0, .int .u8 0, .int .u8 0, .int .u8 0, .int .u8 0, .int .u8 0, .int .u8 0, .int .u8 0]⟩),
  (209, ⟨.struct #[{ name := "lo", type := 5, offset := 0, embedded := false, tag := "", pkgPath := "unicode/utf8", byteOffset := 0 }, { name := "hi", type := 5, offset := 1, embedded := false, tag := "", pkgPath := "unicode/utf8", byteOffset := 1 }], 2, 2, .agg #[.int .u8 0, .int .u8 0]⟩),
  (210, ⟨.array 16 209, 32, 32, .agg #[.int .u8 0, .int .u8 0, .int .u8 0, .int .u8 0, .int .u8 0, .int .u8 0, .int .u8 0, .int .u8 0, .int .u8 0, .int .u8 0, .int .u8 0, .int .u8 0, .int .u8 0, .int .u8 0, .int .u8 0, .int .u8 0, .int .u8 0, .int .u8 0, .int .u8 0, .int .u8 0, .int .u8 0, .int .u8 0, .int .u8 0, .int .u8 0, .int .u8 0, .int .u8 0, .int .u8 0, .int .u8 0, .int .u8 0, .int .u8 0, .int .u8 0, .int .u8 0]⟩),
  (214, ⟨.struct #[{ name := "from", type := 21, offset := 0, embedded := false, tag := "", pkgPath := "apostille/name", byteOffset := 0 }, { name := "to", type := 21, offset := 1, embedded := false, tag := "", pkgPath := "apostille/name", byteOffset := 4 }], 2, 8, .agg #[.int .i32 0, .int .i32 0]⟩),
  (218, ⟨.func #[68] #[4] false, 1, 8, .nilFunc⟩),
  (228, ⟨.slice 230, 1, 24, .slice none 0 0⟩),
  (230, ⟨.struct #[{ name := "start", type := 3, offset := 0, embedded := false, tag := "", pkgPath := "strings", byteOffset := 0 }, { name := "end", type := 3, offset := 1, embedded := false, tag := "", pkgPath := "strings", byteOffset := 8 }], 2, 16, .agg #[.int .i64 0, .int .i64 0]⟩),
  (233, ⟨.int .u64, 1, 8, .int .u64 0⟩),
  (235, ⟨.slice 214, 1, 24, .slice none 0 0⟩),
  (239, ⟨.int .u32, 1, 4, .int .u32 0⟩)]
theorem Tryz.hU : TabOk Tryz.prog Tryz.U :=
  .cons (by kernel_rfl) (by kernel_rfl) <|
  .cons (by kernel_rfl) (by kernel_rfl) <|
  .cons (by kernel_rfl) (by kernel_rfl) <|
  .cons (by kernel_rfl) (by kernel_rfl) <|
  .cons (by kernel_rfl) (by kernel_rfl) <|
  .cons (by kernel_rfl) (by kernel_rfl) <|
  .cons (by kernel_rfl) (by kernel_rfl) <|
  .cons (by kernel_rfl) (by kernel_rfl) <|
  .cons (by kernel_rfl) (by kernel_rfl) <|
  .cons (by kernel_rfl) (by kernel_rfl) <|
  .cons (by kernel_rfl) (by kernel_rfl) <|
  .cons (by kernel_rfl) (by kernel_rfl) <|
  .cons (by kernel_rfl) (by kernel_rfl) <|
  .cons (by kernel_rfl) (by kernel_rfl) <|
  .cons (by kernel_rfl) (by kernel_rfl) <|
  .cons (by kernel_rfl) (by kernel_rfl) <|
  .cons (by kernel_rfl) (by kernel_rfl) <|
  .cons (by kernel_rfl) (by kernel_rfl) <|
  .cons (by kernel_rfl) (by kernel_rfl) <|
  .cons (by kernel_rfl) (by kernel_rfl) <|
  .cons (by kernel_rfl) (by kernel_rfl) <|
  .cons (by kernel_rfl) (by kernel_rfl) <|
  .cons (by kernel_rfl) (by kernel_rfl) <|
  .cons (by kernel_rfl) (by kernel_rfl) <|
  .cons (by kernel_rfl) (by kernel_rfl) <|
  .cons (by kernel_rfl) (by kernel_rfl) <|
  .cons (by kernel_rfl) (by kernel_rfl) <|
  .cons (by kernel_rfl) (by kernel_rfl) <|
  .cons (by kernel_rfl) (by kernel_rfl) <|
  .cons (by kernel_rfl) (by kernel_rfl) <|
  .cons (by kernel_rfl) (by kernel_rfl) <|
  .cons (by kernel_rfl) (by kernel_rfl) <|
  .cons (by kernel_rfl) (by kernel_rfl) <|
  .cons (by kernel_rfl) (by kernel_rfl) <|
  .cons (by kernel_rfl) (by kernel_rfl) <|
  .cons (by kernel_rfl) (by kernel_rfl) <|
  .cons (by kernel_rfl) (by kernel_rfl) <|
  .cons (by kernel_rfl) (by kernel_rfl) <|
  .cons (by kernel_rfl) (by kernel_rfl) <|
  .cons (by kernel_rfl) (by kernel_rfl) <|
  .cons (by kernel_rfl) (by kernel_rfl) <|
  .cons (by kernel_rfl) (by kernel_rfl) <|
  .cons (by kernel_rfl) (by kernel_rfl) <|
  .cons (by kernel_rfl) (by kernel_rfl) <|
  .cons (by kernel_rfl) (by kernel_rfl) <|
  .cons (by kernel_rfl) (by kernel_rfl) <|
  .cons (by kernel_rfl) (by kernel_rfl) <|
  .cons (by kernel_rfl) (by kernel_rfl) <|
  .cons (by kernel_rfl) (by kernel_rfl) <|
  .cons (by kernel_rfl) (by kernel_rfl) <|
  .cons (by kernel_rfl) (by kernel_rfl) <|
  .cons (by kernel_rfl) (by kernel_rfl) <|
  .cons (by kernel_rfl) (by kernel_rfl) <|
  .cons (by kernel_rfl) (by kernel_rfl) <|
  .nil _
theorem hm : Tryz.prog.follows .mixedOrders = true := by kernel_rfl
theorem hs29 : Tryz.prog.stoodInHeld 29 = false := by kernel_rfl
theorem he29 : Tryz.prog.eqGuardType Tryz.prog.depth 29 = false := by kernel_rfl
def c_TDecl (x : TDecl) : List AV := [S x.Prefix, S x.URI]
def c_TAttr (x : TAttr) : List AV := [S x.Prefix, S x.Local, S x.URI, S x.Value]
def c_TNode (x : TNode) : List AV := [I x.Kind, I x.Parent, S x.Prefix, S x.Local, S x.URI, S x.Text, .vs x.Decls.length (F c_TDecl x.Decls), .vs x.Attrs.length (F c_TAttr x.Attrs)]
def c_TOpen_ (x : TOpen_) : List AV := [I x.n, S x.name]
def c_TSpan (x : TSpan) : List AV := [.pl (.int .i32 x.from_), .pl (.int .i32 x.to)]
def c_TDoc (x : TDoc) : List AV := [.vs x.l.length (F c_TNode x.l), .vs x.end_.length (F cI x.end_), I x.top]
def c_TIndex (x : TIndex) : List AV := [oP c_TDoc x.Doc, vM kS (fun v => I v) x.ids]
def c_TPoint (x : TPoint) : List AV := [I x.N, I x.Part, I x.I]
def c_TValue (x : TValue) : List AV := [I x.Kind, .vs x.Set.length (F c_TPoint x.Set), B x.Bool_, I x.N, B x.NaN, S x.Text]
def c_TShape (x : TShape) : List AV := [I x.least, I x.most, B x.set_]
def c_TPlace (x : TPlace) : List AV := c_TPoint x.P ++ [I x.Position] ++ [I x.Size]
def c_TCaller (x : TCaller) : List AV := [oP c_TIndex x.x] ++ c_TPlace x.at_ ++ [.vs x.args.length (F c_TValue x.args)]
def c_TSpan2 (x : TSpan2) : List AV := [I x.start, I x.end_]
def c_TRaw (x : TRaw) : List AV := [U x.Kind, .vs x.Set.length (F c_TPoint x.Set), B x.Bool_, I x.N, B x.NaN, S x.Text]
theorem utf8_word_byte_ok {s : (List UInt8)} {r : Int} (h : utf8_word_byte s = some r) : XSpec Tryz.prog 196 [.vs s.length (F cU s)] [] (.pl (.int .u64 r)) [] [] := by
  unfold utf8_word_byte at h
  refine X_of_run Tryz.hU Tryz.func196 (fun _ _ _ hB => ?_)
  refine k_seq ?_
  refine k_reg ?_
  refine l_assign ?_
  refine k_nil ?_
  refine f_t ?_
  refine k_seq ?_
  refine k_f ?_
  refine k_skip ?_
  refine f_t ?_
  refine k_seq ?_
  refine k_mix [] (.q 0 (.q 1 (.q 2 (.q 3 (.q 4 (.q 5 (.q 6 (.q 7 (.q 8 (.q 9 (.q 10 (.q 11 (.q 12 (.q 13 (.q 14 (.q 15 (.q 16 (.q 17 (.q 18 (.q 19 (.q 20 (.q 21 (.q 22 (.q 23 (.q 24 (.q 25 (.q 26 (.q 27 (.q 28 (.q 29 (.q 30 (.q 31 (.q 32 (.q 33 (.q 34 (.q 35 (.q 36 (.q 37 (.q 38 (.q 39 (.q 40 (.q 41 (.q 42 (.q 43 (.q 44 (.q 45 (.q 46 (.done)))))))))))))))))))))))))))))))))))))))))))))))) hm ?_
  refine gq ?_
  refine n_move ?_
  refine gq ?_
  refine n_at h (fun v1 _ h => ?_)
  refine gq ?_
  refine n_load ?_
  refine gq ?_
  refine n_conv_int ?_
  refine gq ?_
  refine n_move ?_
  refine gq ?_
  refine n_at h (fun v2 _ h => ?_)
  refine gq ?_
  refine n_load ?_
  refine gq ?_
  refine n_conv_int ?_
  refine gq ?_
  refine n_shlC (r := (v64 (v2.toNat : Int)) * 2 ^ 8) ?_
  refine gq ?_
  refine n_bits ?_
  refine gq ?_
  refine n_move ?_
  refine gq ?_
  refine n_at h (fun v3 _ h => ?_)
  refine gq ?_
  refine n_load ?_
  refine gq ?_
  refine n_conv_int ?_
  refine gq ?_
  refine n_shlC (r := (v64 (v3.toNat : Int)) * 2 ^ 16) ?_
  refine gq ?_
  refine n_bits ?_
  refine gq ?_
  refine n_move ?_
  refine gq ?_
  refine n_at h (fun v4 _ h => ?_)
  refine gq ?_
  refine n_load ?_
  refine gq ?_
  refine n_conv_int ?_
  refine gq ?_
  refine n_shlC (r := (v64 (v4.toNat : Int)) * 2 ^ 24) ?_
  refine gq ?_
  refine n_bits ?_
  refine gq ?_
  refine n_move ?_
  refine gq ?_
  refine n_at h (fun v5 _ h => ?_)
  refine gq ?_
  refine n_load ?_
  refine gq ?_
  refine n_conv_int ?_
  refine gq ?_
  refine n_shlC (r := (v64 (v5.toNat : Int)) * 2 ^ 32) ?_
  refine gq ?_
  refine n_bits ?_
  refine gq ?_
  refine n_move ?_
  refine gq ?_
  refine n_at h (fun v6 _ h => ?_)
  refine gq ?_
  refine n_load ?_
  refine gq ?_
  refine n_conv_int ?_
  refine gq ?_
  refine n_shlC (r := (v64 (v6.toNat : Int)) * 2 ^ 40) ?_
  refine gq ?_
  refine n_bits ?_
  refine gq ?_
  refine n_move ?_
  refine gq ?_
  refine n_at h (fun v7 _ h => ?_)
  refine gq ?_
  refine n_load ?_
  refine gq ?_
  refine n_conv_int ?_
  refine gq ?_
  refine n_shlC (r := (v64 (v7.toNat : Int)) * 2 ^ 48) ?_
  refine gq ?_
  refine n_bits ?_
  refine gq ?_
  refine n_move ?_
  refine gq ?_
  refine n_at h (fun v8 _ h => ?_)
  refine gq ?_
  refine n_load ?_
  refine gq ?_
  refine n_conv_int ?_
  refine gq ?_
  refine n_shlC (r := (v64 (v8.toNat : Int)) * 2 ^ 56) ?_
  refine gq ?_
  refine n_bits ?_
  refine gq ?_
  refine n_assign ?_
  refine m_nil ?_
  refine f_t ?_
  refine k_retc ?_
  apply k_ret [] hB h
theorem utf8_Valid_ok {p : (List UInt8)} {r : Bool} (h : utf8_Valid p = some r) : XSpec Tryz.prog 160 [.vs p.length (F cU p)] [] (B r) [] [] := by
  unfold utf8_Valid at h
  refine X_of_run Tryz.hU Tryz.func160 (fun _ _ _ hB => ?_)
  refine k_seq ?_
  refine k_reg ?_
  refine l_assign ?_
  refine k_nil ?_
  refine f_t ?_
  refine k_seq ?_
  refine k_reg ?_
  refine l_move ?_
  refine l_move ?_
  refine l_len ?_
  refine l_move ?_
  refine l_len ?_
  refine l_sub3 h (fun v1 _ h => ?_)
  refine l_assign ?_
  refine k_nil ?_
  refine f_t ?_
  refine k_seq ?_
  refine k_block ?_
  refine k_loop (fun y2 => ⟨[(0, .vs y2.length (F cU y2))], [], []⟩) (Sum.elim (fun q40 => (.ret, ⟨[(2, B false)], [], []⟩)) (fun q41 => (.exit 0, ⟨[], [], []⟩))) [] hB h (fun y2 t h => ?_) (fun q h => ?_)
  · unfold utf8_Valid_b1 at h
    refine k_seq ?_
    refine k_seq ?_
    refine k_reg ?_
    refine l_move ?_
    refine l_len ?_
    refine l_cmp ?_
    refine k_nil ?_
    refine f_t ?_
    refine k_if h (fun _ h => ?_) (fun _ h => ?_)
    · refine k_skip ?_
      refine f_t ?_
      refine k_block ?_
      refine k_seq ?_
      refine k_reg ?_
      refine l_move ?_
      refine l_at h (fun v3 _ h => ?_)
      refine l_load ?_
      refine l_assign ?_
      refine k_nil ?_
      refine f_t ?_
      refine k_seq ?_
      refine k_seq ?_
      refine k_reg ?_
      refine l_move ?_
      refine l_cmp ?_
      refine k_nil ?_
      refine f_t ?_
      refine k_if h (fun _ h => ?_) (fun _ h => ?_)
      · refine k_seq ?_
        refine k_reg ?_
        refine l_move ?_
        refine l_subf h (fun v4 _ h => ?_)
        refine l_assign ?_
        refine k_nil ?_
        refine f_t ?_
        refine k_seq ?_
        refine k_seq ?_
        refine k_cut (fun q6 => (.normal, ⟨[(0, .vs v4.length (F cU v4)), (31, B q6)], [], []⟩)) h (fun t h => ?_) (fun q6 h => ?_)
        · refine k_reg ?_
          refine l_move ?_
          refine l_len ?_
          refine l_cmp ?_
          refine l_move ?_
          refine l_split h (fun _ h => ?_) (fun _ h => ?_)
          · refine l_on ?_
            refine l_move ?_
            refine l_on ?_
            refine l_call h (fun _ => utf8_word_byte_ok) (fun v5 _ h => ?_)
            refine l_on ?_
            refine l_bits ?_
            refine l_on ?_
            refine l_cmp ?_
            refine l_pick_true ?_
            refine k_nil ?_
            exact k_out [] hB h
          refine l_off ?_
          refine l_off ?_
          refine l_off ?_
          refine l_off ?_
          refine l_pick_false ?_
          refine k_nil ?_
          exact k_out [] hB h
        refine f_t ?_
        refine k_if h (fun _ h => ?_) (fun _ h => ?_)
        · refine k_seq ?_
          refine k_reg ?_
          refine l_move ?_
          refine l_subf h (fun v7 _ h => ?_)
          refine l_assign ?_
          refine k_nil ?_
          refine f_t ?_
          refine k_seq ?_
          refine k_cut (fun q11 => (.normal, ⟨[(0, .vs v7.length (F cU v7)), (46, B q11)], [], []⟩)) h (fun t h => ?_) (fun q11 h => ?_)
          · refine k_mix [] (.q 0 (.q 1 (.q 2 (.q 3 (.q 4 (.q 6 (.q 7 (.e 5 (.e 8 (.q 9 (.q 10 (.q 11 (.q 12 (.done)))))))))))))) hm ?_
            refine gq ?_
            refine n_move ?_
            refine gq ?_
            refine n_len ?_
            refine gq ?_
            refine n_cmp ?_
            refine gq ?_
            refine n_move ?_
            refine gq ?_
            refine n_split h (fun _ h => ?_) (fun _ h => ?_)
            · refine n_on ?_
              refine n_move ?_
              refine gq ?_
              refine n_on ?_
              refine n_move ?_
              refine gq ?_
              refine n_on ?_
              refine n_subf h (fun v8 _ h => ?_)
              refine ge ?_
              refine n_on ?_
              refine n_call h (fun _ => utf8_word_byte_ok) (fun v9 _ h => ?_)
              refine ge ?_
              refine n_on ?_
              refine n_call h (fun _ => utf8_word_byte_ok) (fun v10 _ h => ?_)
              refine gq ?_
              refine n_on ?_
              refine n_bits ?_
              refine gq ?_
              refine n_on ?_
              refine n_bits ?_
              refine gq ?_
              refine n_on ?_
              refine n_cmp ?_
              refine gq ?_
              refine n_pick_true ?_
              refine m_nil ?_
              exact k_out [] hB h
            refine n_off ?_
            refine gq ?_
            refine n_off ?_
            refine gq ?_
            refine n_off ?_
            refine ge ?_
            refine n_off ?_
            refine ge ?_
            refine n_off ?_
            refine gq ?_
            refine n_off ?_
            refine gq ?_
            refine n_off ?_
            refine gq ?_
            refine n_off ?_
            refine gq ?_
            refine n_pick_false ?_
            refine m_nil ?_
            exact k_out [] hB h
          refine f_t ?_
          refine k_if h (fun _ h => ?_) (fun _ h => ?_)
          · refine k_seq ?_
            refine k_reg ?_
            refine l_move ?_
            refine l_subf h (fun v12 _ h => ?_)
            refine l_assign ?_
            refine k_nil ?_
            refine f_t ?_
            refine k_block ?_
            refine k_loop (fun y13 => ⟨[(0, .vs y13.length (F cU y13))], [], []⟩) (fun q22 => (.exit 2, ⟨[(0, .vs q22.length (F cU q22))], [], []⟩)) [] hB h (fun y13 t h => ?_) (fun q22 h => ?_)
            · unfold utf8_Valid_b2 at h
              refine k_seq ?_
              refine k_seq ?_
              refine k_mix [] (.q 0 (.q 1 (.q 2 (.q 3 (.q 4 (.q 6 (.q 7 (.q 10 (.q 11 (.q 13 (.q 14 (.e 5 (.e 8 (.q 9 (.e 12 (.e 15 (.q 16 (.q 17 (.q 18 (.q 19 (.q 20 (.done)))))))))))))))))))))) hm ?_
              refine gq ?_
              refine n_move ?_
              refine gq ?_
              refine n_len ?_
              refine gq ?_
              refine n_cmp ?_
              refine gq ?_
              refine n_move ?_
              refine gq ?_
              refine n_split h (fun _ h => ?_) (fun _ h => ?_)
              · refine n_on ?_
                refine n_move ?_
                refine gq ?_
                refine n_on ?_
                refine n_move ?_
                refine gq ?_
                refine n_on ?_
                refine n_subf h (fun v14 _ h => ?_)
                refine gq ?_
                refine n_on ?_
                refine n_move ?_
                refine gq ?_
                refine n_on ?_
                refine n_subf h (fun v15 _ h => ?_)
                refine gq ?_
                refine n_on ?_
                refine n_move ?_
                refine gq ?_
                refine n_on ?_
                refine n_subf h (fun v16 _ h => ?_)
                refine ge ?_
                refine n_on ?_
                refine n_call h (fun _ => utf8_word_byte_ok) (fun v17 _ h => ?_)
                refine ge ?_
                refine n_on ?_
                refine n_call h (fun _ => utf8_word_byte_ok) (fun v18 _ h => ?_)
                refine gq ?_
                refine n_on ?_
                refine n_bits ?_
                refine ge ?_
                refine n_on ?_
                refine n_call h (fun _ => utf8_word_byte_ok) (fun v19 _ h => ?_)
                refine ge ?_
                refine n_on ?_
                refine n_call h (fun _ => utf8_word_byte_ok) (fun v20 _ h => ?_)
                refine gq ?_
                refine n_on ?_
                refine n_bits ?_
                refine gq ?_
                refine n_on ?_
                refine n_bits ?_
                refine gq ?_
                refine n_on ?_
                refine n_bits ?_
                refine gq ?_
                refine n_on ?_
                refine n_cmp ?_
                refine gq ?_
                refine n_pick_true ?_
                refine m_nil ?_
                refine f_t ?_
                refine k_if h (fun _ h => ?_) (fun _ h => ?_)
                · refine k_skip ?_
                  refine f_t ?_
                  refine k_block ?_
                  refine k_reg ?_
                  refine l_move ?_
                  refine l_subf h (fun v21 _ h => ?_)
                  refine l_assign ?_
                  refine k_nil ?_
                  refine f_b ?_
                  exact k_next [] hB h
                refine k_exit ?_
                refine f_te ?_
                exact k_brk [] hB h
              refine n_off ?_
              refine gq ?_
              refine n_off ?_
              refine gq ?_
              refine n_off ?_
              refine gq ?_
              refine n_off ?_
              refine gq ?_
              refine n_off ?_
              refine gq ?_
              refine n_off ?_
              refine gq ?_
              refine n_off ?_
              refine ge ?_
              refine n_off ?_
              refine ge ?_
              refine n_off ?_
              refine gq ?_
              refine n_off ?_
              refine ge ?_
              refine n_off ?_
              refine ge ?_
              refine n_off ?_
              refine gq ?_
              refine n_off ?_
              refine gq ?_
              refine n_off ?_
              refine gq ?_
              refine n_off ?_
              refine gq ?_
              refine n_off ?_
              refine gq ?_
              refine n_pick_false ?_
              refine m_nil ?_
              refine f_t ?_
              refine k_f ?_
              refine k_exit ?_
              refine f_te ?_
              exact k_brk [] hB h
            refine f_be ?_
            refine f_t ?_
            refine k_exit ?_
            refine f_te ?_
            refine f_be ?_
            exact k_next [] hB h
          refine k_skip ?_
          refine f_t ?_
          refine k_exit ?_
          refine f_te ?_
          refine f_be ?_
          exact k_next [] hB h
        refine k_skip ?_
        refine f_t ?_
        refine k_exit ?_
        refine f_te ?_
        refine f_be ?_
        exact k_next [] hB h
      refine k_skip ?_
      refine f_t ?_
      refine k_seq ?_
      refine k_reg ?_
      refine l_move ?_
      refine l_atg (ev := (fun x : UInt8 => [Value.int .u8 (x.toNat : Int)])) 0 h (fun v23 _ h => ?_)
      refine l_load ?_
      refine l_assign ?_
      refine k_nil ?_
      refine f_t ?_
      refine k_seq ?_
      refine k_reg ?_
      refine l_move ?_
      refine l_bitsU ?_
      refine l_conv_int ?_
      refine l_assign ?_
      refine k_nil ?_
      refine f_t ?_
      refine k_seq ?_
      refine k_reg ?_
      refine l_move ?_
      refine l_shrU v23 4 ?_
      refine l_atg (ev := (fun x : TAcceptRange => [Value.int .u8 (x.lo.toNat : Int), Value.int .u8 (x.hi.toNat : Int)])) 1 h (fun v24 _ h => ?_)
      refine l_load_agg ?_
      refine l_alloc ?_
      refine l_store_box ?_
      refine k_nil ?_
      refine f_t ?_
      refine k_seq ?_
      refine k_reg ?_
      refine l_move ?_
      refine k_nil ?_
      refine f_t ?_
      refine k_block ?_
      refine k_seq ?_
      refine k_reg ?_
      refine l_cmp ?_
      refine l_assign ?_
      refine k_nil ?_
      refine f_t ?_
      refine k_if h (fun _ h => ?_) (fun _ h => ?_)
      · refine k_seq ?_
        refine k_seq ?_
        refine k_mix [] (.q 0 (.q 1 (.q 2 (.q 3 (.q 4 (.q 5 (.q 6 (.q 7 (.q 8 (.q 9 (.q 10 (.q 11 (.q 12 (.q 13 (.q 14 (.q 15 (.q 16 (.q 17 (.q 18 (.done)))))))))))))))))))) hm ?_
        refine gq ?_
        refine n_move ?_
        refine gq ?_
        refine n_len ?_
        refine gq ?_
        refine n_cmp ?_
        refine gq ?_
        refine n_move ?_
        refine gq ?_
        refine n_split h (fun _ h => ?_) (fun _ h => ?_)
        · refine n_off ?_
          refine gq ?_
          refine n_off ?_
          refine gq ?_
          refine n_off ?_
          refine gq ?_
          refine n_off ?_
          refine gq ?_
          refine n_off ?_
          refine gq ?_
          refine n_off ?_
          refine gq ?_
          refine n_pick_true ?_
          refine gq ?_
          refine n_move ?_
          refine gq ?_
          refine n_off ?_
          refine gq ?_
          refine n_off ?_
          refine gq ?_
          refine n_off ?_
          refine gq ?_
          refine n_off ?_
          refine gq ?_
          refine n_off ?_
          refine gq ?_
          refine n_off ?_
          refine gq ?_
          refine n_pick_true ?_
          refine m_nil ?_
          refine f_t ?_
          refine k_t ?_
          refine k_seq ?_
          refine k_reg ?_
          refine l_assign ?_
          refine k_nil ?_
          refine f_t ?_
          refine k_retc ?_
          refine f_tr ?_
          refine f_br ?_
          refine f_br ?_
          exact k_brk [] hB h
        refine n_on ?_
        refine n_move ?_
        refine gq ?_
        refine n_on ?_
        refine n_at h (fun v25 _ h => ?_)
        refine gq ?_
        refine n_on ?_
        refine n_load ?_
        refine gq ?_
        refine n_on ?_
        refine n_fieldAddr ?_
        refine gq ?_
        refine n_on ?_
        refine n_load ?_
        refine gq ?_
        refine n_on ?_
        refine n_cmp ?_
        refine gq ?_
        refine n_pick_false ?_
        refine gq ?_
        refine n_move ?_
        refine gq ?_
        refine n_split h (fun _ h => ?_) (fun _ h => ?_)
        · refine n_off ?_
          refine gq ?_
          refine n_off ?_
          refine gq ?_
          refine n_off ?_
          refine gq ?_
          refine n_off ?_
          refine gq ?_
          refine n_off ?_
          refine gq ?_
          refine n_off ?_
          refine gq ?_
          refine n_pick_true ?_
          refine m_nil ?_
          refine f_t ?_
          refine k_t ?_
          refine k_seq ?_
          refine k_reg ?_
          refine l_assign ?_
          refine k_nil ?_
          refine f_t ?_
          refine k_retc ?_
          refine f_tr ?_
          refine f_br ?_
          refine f_br ?_
          exact k_brk [] hB h
        refine n_on ?_
        refine n_fieldAddr ?_
        refine gq ?_
        refine n_on ?_
        refine n_load ?_
        refine gq ?_
        refine n_on ?_
        refine n_move ?_
        refine gq ?_
        refine n_on ?_
        refine n_at h (fun v26 _ h => ?_)
        refine gq ?_
        refine n_on ?_
        refine n_load ?_
        refine gq ?_
        refine n_on ?_
        refine n_cmp ?_
        refine gq ?_
        refine n_pick_false ?_
        refine m_nil ?_
        refine f_t ?_
        refine k_if h (fun _ h => ?_) (fun _ h => ?_)
        · refine k_seq ?_
          refine k_reg ?_
          refine l_assign ?_
          refine k_nil ?_
          refine f_t ?_
          refine k_retc ?_
          refine f_tr ?_
          refine f_br ?_
          refine f_br ?_
          exact k_brk [] hB h
        refine k_skip ?_
        refine f_t ?_
        refine k_reg ?_
        refine l_move ?_
        refine l_subf h (fun v27 _ h => ?_)
        refine l_assign ?_
        refine k_nil ?_
        refine f_b ?_
        refine f_b ?_
        exact k_next [] hB h
      refine k_seq ?_
      refine k_reg ?_
      refine l_cmp ?_
      refine l_assign ?_
      refine k_nil ?_
      refine f_t ?_
      refine k_if h (fun _ h => ?_) (fun _ h => ?_)
      · refine k_seq ?_
        refine k_seq ?_
        refine k_mix [] (.q 0 (.q 1 (.q 2 (.q 3 (.q 4 (.q 5 (.q 6 (.q 7 (.q 8 (.q 9 (.q 10 (.q 11 (.q 12 (.q 13 (.q 14 (.q 15 (.q 16 (.q 17 (.q 18 (.q 19 (.q 20 (.q 21 (.q 22 (.q 23 (.q 24 (.q 25 (.q 26 (.q 27 (.q 28 (.q 29 (.q 30 (.done)))))))))))))))))))))))))))))))) hm ?_
        refine gq ?_
        refine n_move ?_
        refine gq ?_
        refine n_len ?_
        refine gq ?_
        refine n_cmp ?_
        refine gq ?_
        refine n_move ?_
        refine gq ?_
        refine n_split h (fun _ h => ?_) (fun _ h => ?_)
        · refine n_off ?_
          refine gq ?_
          refine n_off ?_
          refine gq ?_
          refine n_off ?_
          refine gq ?_
          refine n_off ?_
          refine gq ?_
          refine n_off ?_
          refine gq ?_
          refine n_off ?_
          refine gq ?_
          refine n_pick_true ?_
          refine gq ?_
          refine n_move ?_
          refine gq ?_
          refine n_off ?_
          refine gq ?_
          refine n_off ?_
          refine gq ?_
          refine n_off ?_
          refine gq ?_
          refine n_off ?_
          refine gq ?_
          refine n_off ?_
          refine gq ?_
          refine n_off ?_
          refine gq ?_
          refine n_pick_true ?_
          refine gq ?_
          refine n_move ?_
          refine gq ?_
          refine n_off ?_
          refine gq ?_
          refine n_off ?_
          refine gq ?_
          refine n_off ?_
          refine gq ?_
          refine n_off ?_
          refine gq ?_
          refine n_pick_true ?_
          refine gq ?_
          refine n_move ?_
          refine gq ?_
          refine n_off ?_
          refine gq ?_
          refine n_off ?_
          refine gq ?_
          refine n_off ?_
          refine gq ?_
          refine n_off ?_
          refine gq ?_
          refine n_pick_true ?_
          refine m_nil ?_
          refine f_t ?_
          refine k_t ?_
          refine k_seq ?_
          refine k_reg ?_
          refine l_assign ?_
          refine k_nil ?_
          refine f_t ?_
          refine k_retc ?_
          refine f_tr ?_
          refine f_br ?_
          refine f_br ?_
          exact k_brk [] hB h
        refine n_on ?_
        refine n_move ?_
        refine gq ?_
        refine n_on ?_
        refine n_at h (fun v28 _ h => ?_)
        refine gq ?_
        refine n_on ?_
        refine n_load ?_
        refine gq ?_
        refine n_on ?_
        refine n_fieldAddr ?_
        refine gq ?_
        refine n_on ?_
        refine n_load ?_
        refine gq ?_
        refine n_on ?_
        refine n_cmp ?_
        refine gq ?_
        refine n_pick_false ?_
        refine gq ?_
        refine n_move ?_
        refine gq ?_
        refine n_split h (fun _ h => ?_) (fun _ h => ?_)
        · refine n_off ?_
          refine gq ?_
          refine n_off ?_
          refine gq ?_
          refine n_off ?_
          refine gq ?_
          refine n_off ?_
          refine gq ?_
          refine n_off ?_
          refine gq ?_
          refine n_off ?_
          refine gq ?_
          refine n_pick_true ?_
          refine gq ?_
          refine n_move ?_
          refine gq ?_
          refine n_off ?_
          refine gq ?_
          refine n_off ?_
          refine gq ?_
          refine n_off ?_
          refine gq ?_
          refine n_off ?_
          refine gq ?_
          refine n_pick_true ?_
          refine gq ?_
          refine n_move ?_
          refine gq ?_
          refine n_off ?_
          refine gq ?_
          refine n_off ?_
          refine gq ?_
          refine n_off ?_
          refine gq ?_
          refine n_off ?_
          refine gq ?_
          refine n_pick_true ?_
          refine m_nil ?_
          refine f_t ?_
          refine k_t ?_
          refine k_seq ?_
          refine k_reg ?_
          refine l_assign ?_
          refine k_nil ?_
          refine f_t ?_
          refine k_retc ?_
          refine f_tr ?_
          refine f_br ?_
          refine f_br ?_
          exact k_brk [] hB h
        refine n_on ?_
        refine n_fieldAddr ?_
        refine gq ?_
        refine n_on ?_
        refine n_load ?_
        refine gq ?_
        refine n_on ?_
        refine n_move ?_
        refine gq ?_
        refine n_on ?_
        refine n_at h (fun v29 _ h => ?_)
        refine gq ?_
        refine n_on ?_
        refine n_load ?_
        refine gq ?_
        refine n_on ?_
        refine n_cmp ?_
        refine gq ?_
        refine n_pick_false ?_
        refine gq ?_
        refine n_move ?_
        refine gq ?_
        refine n_split h (fun _ h => ?_) (fun _ h => ?_)
        · refine n_off ?_
          refine gq ?_
          refine n_off ?_
          refine gq ?_
          refine n_off ?_
          refine gq ?_
          refine n_off ?_
          refine gq ?_
          refine n_pick_true ?_
          refine gq ?_
          refine n_move ?_
          refine gq ?_
          refine n_off ?_
          refine gq ?_
          refine n_off ?_
          refine gq ?_
          refine n_off ?_
          refine gq ?_
          refine n_off ?_
          refine gq ?_
          refine n_pick_true ?_
          refine m_nil ?_
          refine f_t ?_
          refine k_t ?_
          refine k_seq ?_
          refine k_reg ?_
          refine l_assign ?_
          refine k_nil ?_
          refine f_t ?_
          refine k_retc ?_
          refine f_tr ?_
          refine f_br ?_
          refine f_br ?_
          exact k_brk [] hB h
        refine n_on ?_
        refine n_move ?_
        refine gq ?_
        refine n_on ?_
        refine n_at h (fun v30 _ h => ?_)
        refine gq ?_
        refine n_on ?_
        refine n_load ?_
        refine gq ?_
        refine n_on ?_
        refine n_cmp ?_
        refine gq ?_
        refine n_pick_false ?_
        refine gq ?_
        refine n_move ?_
        refine gq ?_
        refine n_split h (fun _ h => ?_) (fun _ h => ?_)
        · refine n_off ?_
          refine gq ?_
          refine n_off ?_
          refine gq ?_
          refine n_off ?_
          refine gq ?_
          refine n_off ?_
          refine gq ?_
          refine n_pick_true ?_
          refine m_nil ?_
          refine f_t ?_
          refine k_t ?_
          refine k_seq ?_
          refine k_reg ?_
          refine l_assign ?_
          refine k_nil ?_
          refine f_t ?_
          refine k_retc ?_
          refine f_tr ?_
          refine f_br ?_
          refine f_br ?_
          exact k_brk [] hB h
        refine n_on ?_
        refine n_move ?_
        refine gq ?_
        refine n_on ?_
        refine n_at h (fun v31 _ h => ?_)
        refine gq ?_
        refine n_on ?_
        refine n_load ?_
        refine gq ?_
        refine n_on ?_
        refine n_cmp ?_
        refine gq ?_
        refine n_pick_false ?_
        refine m_nil ?_
        refine f_t ?_
        refine k_if h (fun _ h => ?_) (fun _ h => ?_)
        · refine k_seq ?_
          refine k_reg ?_
          refine l_assign ?_
          refine k_nil ?_
          refine f_t ?_
          refine k_retc ?_
          refine f_tr ?_
          refine f_br ?_
          refine f_br ?_
          exact k_brk [] hB h
        refine k_skip ?_
        refine f_t ?_
        refine k_reg ?_
        refine l_move ?_
        refine l_subf h (fun v32 _ h => ?_)
        refine l_assign ?_
        refine k_nil ?_
        refine f_b ?_
        refine f_b ?_
        exact k_next [] hB h
      refine k_seq ?_
      refine k_reg ?_
      refine l_cmp ?_
      refine l_assign ?_
      refine k_nil ?_
      refine f_t ?_
      refine k_if h (fun _ h => ?_) (fun _ h => ?_)
      · refine k_seq ?_
        refine k_seq ?_
        refine k_mix [] (.q 0 (.q 1 (.q 2 (.q 3 (.q 4 (.q 5 (.q 6 (.q 7 (.q 8 (.q 9 (.q 10 (.q 11 (.q 12 (.q 13 (.q 14 (.q 15 (.q 16 (.q 17 (.q 18 (.q 19 (.q 20 (.q 21 (.q 22 (.q 23 (.q 24 (.q 25 (.q 26 (.q 27 (.q 28 (.q 29 (.q 30 (.q 31 (.q 32 (.q 33 (.q 34 (.q 35 (.q 36 (.q 37 (.q 38 (.q 39 (.q 40 (.q 41 (.q 42 (.done)))))))))))))))))))))))))))))))))))))))))))) hm ?_
        refine gq ?_
        refine n_move ?_
        refine gq ?_
        refine n_len ?_
        refine gq ?_
        refine n_cmp ?_
        refine gq ?_
        refine n_move ?_
        refine gq ?_
        refine n_split h (fun _ h => ?_) (fun _ h => ?_)
        · refine n_off ?_
          refine gq ?_
          refine n_off ?_
          refine gq ?_
          refine n_off ?_
          refine gq ?_
          refine n_off ?_
          refine gq ?_
          refine n_off ?_
          refine gq ?_
          refine n_off ?_
          refine gq ?_
          refine n_pick_true ?_
          refine gq ?_
          refine n_move ?_
          refine gq ?_
          refine n_off ?_
          refine gq ?_
          refine n_off ?_
          refine gq ?_
          refine n_off ?_
          refine gq ?_
          refine n_off ?_
          refine gq ?_
          refine n_off ?_
          refine gq ?_
          refine n_off ?_
          refine gq ?_
          refine n_pick_true ?_
          refine gq ?_
          refine n_move ?_
          refine gq ?_
          refine n_off ?_
          refine gq ?_
          refine n_off ?_
          refine gq ?_
          refine n_off ?_
          refine gq ?_
          refine n_off ?_
          refine gq ?_
          refine n_pick_true ?_
          refine gq ?_
          refine n_move ?_
          refine gq ?_
          refine n_off ?_
          refine gq ?_
          refine n_off ?_
          refine gq ?_
          refine n_off ?_
          refine gq ?_
          refine n_off ?_
          refine gq ?_
          refine n_pick_true ?_
          refine gq ?_
          refine n_move ?_
          refine gq ?_
          refine n_off ?_
          refine gq ?_
          refine n_off ?_
          refine gq ?_
          refine n_off ?_
          refine gq ?_
          refine n_off ?_
          refine gq ?_
          refine n_pick_true ?_
          refine gq ?_
          refine n_move ?_
          refine gq ?_
          refine n_off ?_
          refine gq ?_
          refine n_off ?_
          refine gq ?_
          refine n_off ?_
          refine gq ?_
          refine n_off ?_
          refine gq ?_
          refine n_pick_true ?_
          refine m_nil ?_
          refine f_t ?_
          refine k_t ?_
          refine k_seq ?_
          refine k_reg ?_
          refine l_assign ?_
          refine k_nil ?_
          refine f_t ?_
          refine k_retc ?_
          refine f_tr ?_
          refine f_br ?_
          refine f_br ?_
          exact k_brk [] hB h
        refine n_on ?_
        refine n_move ?_
        refine gq ?_
        refine n_on ?_
        refine n_at h (fun v33 _ h => ?_)
        refine gq ?_
        refine n_on ?_
        refine n_load ?_
        refine gq ?_
        refine n_on ?_
        refine n_fieldAddr ?_
        refine gq ?_
        refine n_on ?_
        refine n_load ?_
        refine gq ?_
        refine n_on ?_
        refine n_cmp ?_
        refine gq ?_
        refine n_pick_false ?_
        refine gq ?_
        refine n_move ?_
        refine gq ?_
        refine n_split h (fun _ h => ?_) (fun _ h => ?_)
        · refine n_off ?_
          refine gq ?_
          refine n_off ?_
          refine gq ?_
          refine n_off ?_
          refine gq ?_
          refine n_off ?_
          refine gq ?_
          refine n_off ?_
          refine gq ?_
          refine n_off ?_
          refine gq ?_
          refine n_pick_true ?_
          refine gq ?_
          refine n_move ?_
          refine gq ?_
          refine n_off ?_
          refine gq ?_
          refine n_off ?_
          refine gq ?_
          refine n_off ?_
          refine gq ?_
          refine n_off ?_
          refine gq ?_
          refine n_pick_true ?_
          refine gq ?_
          refine n_move ?_
          refine gq ?_
          refine n_off ?_
          refine gq ?_
          refine n_off ?_
          refine gq ?_
          refine n_off ?_
          refine gq ?_
          refine n_off ?_
          refine gq ?_
          refine n_pick_true ?_
          refine gq ?_
          refine n_move ?_
          refine gq ?_
          refine n_off ?_
          refine gq ?_
          refine n_off ?_
          refine gq ?_
          refine n_off ?_
          refine gq ?_
          refine n_off ?_
          refine gq ?_
          refine n_pick_true ?_
          refine gq ?_
          refine n_move ?_
          refine gq ?_
          refine n_off ?_
          refine gq ?_
          refine n_off ?_
          refine gq ?_
          refine n_off ?_
          refine gq ?_
          refine n_off ?_
          refine gq ?_
          refine n_pick_true ?_
          refine m_nil ?_
          refine f_t ?_
          refine k_t ?_
          refine k_seq ?_
          refine k_reg ?_
          refine l_assign ?_
          refine k_nil ?_
          refine f_t ?_
          refine k_retc ?_
          refine f_tr ?_
          refine f_br ?_
          refine f_br ?_
          exact k_brk [] hB h
        refine n_on ?_
        refine n_fieldAddr ?_
        refine gq ?_
        refine n_on ?_
        refine n_load ?_
        refine gq ?_
        refine n_on ?_
        refine n_move ?_
        refine gq ?_
        refine n_on ?_
        refine n_at h (fun v34 _ h => ?_)
        refine gq ?_
        refine n_on ?_
        refine n_load ?_
        refine gq ?_
        refine n_on ?_
        refine n_cmp ?_
        refine gq ?_
        refine n_pick_false ?_
        refine gq ?_
        refine n_move ?_
        refine gq ?_
        refine n_split h (fun _ h => ?_) (fun _ h => ?_)
        · refine n_off ?_
          refine gq ?_
          refine n_off ?_
          refine gq ?_
          refine n_off ?_
          refine gq ?_
          refine n_off ?_
          refine gq ?_
          refine n_pick_true ?_
          refine gq ?_
          refine n_move ?_
          refine gq ?_
          refine n_off ?_
          refine gq ?_
          refine n_off ?_
          refine gq ?_
          refine n_off ?_
          refine gq ?_
          refine n_off ?_
          refine gq ?_
          refine n_pick_true ?_
          refine gq ?_
          refine n_move ?_
          refine gq ?_
          refine n_off ?_
          refine gq ?_
          refine n_off ?_
          refine gq ?_
          refine n_off ?_
          refine gq ?_
          refine n_off ?_
          refine gq ?_
          refine n_pick_true ?_
          refine gq ?_
          refine n_move ?_
          refine gq ?_
          refine n_off ?_
          refine gq ?_
          refine n_off ?_
          refine gq ?_
          refine n_off ?_
          refine gq ?_
          refine n_off ?_
          refine gq ?_
          refine n_pick_true ?_
          refine m_nil ?_
          refine f_t ?_
          refine k_t ?_
          refine k_seq ?_
          refine k_reg ?_
          refine l_assign ?_
          refine k_nil ?_
          refine f_t ?_
          refine k_retc ?_
          refine f_tr ?_
          refine f_br ?_
          refine f_br ?_
          exact k_brk [] hB h
        refine n_on ?_
        refine n_move ?_
        refine gq ?_
        refine n_on ?_
        refine n_at h (fun v35 _ h => ?_)
        refine gq ?_
        refine n_on ?_
        refine n_load ?_
        refine gq ?_
        refine n_on ?_
        refine n_cmp ?_
        refine gq ?_
        refine n_pick_false ?_
        refine gq ?_
        refine n_move ?_
        refine gq ?_
        refine n_split h (fun _ h => ?_) (fun _ h => ?_)
        · refine n_off ?_
          refine gq ?_
          refine n_off ?_
          refine gq ?_
          refine n_off ?_
          refine gq ?_
          refine n_off ?_
          refine gq ?_
          refine n_pick_true ?_
          refine gq ?_
          refine n_move ?_
          refine gq ?_
          refine n_off ?_
          refine gq ?_
          refine n_off ?_
          refine gq ?_
          refine n_off ?_
          refine gq ?_
          refine n_off ?_
          refine gq ?_
          refine n_pick_true ?_
          refine gq ?_
          refine n_move ?_
          refine gq ?_
          refine n_off ?_
          refine gq ?_
          refine n_off ?_
          refine gq ?_
          refine n_off ?_
          refine gq ?_
          refine n_off ?_
          refine gq ?_
          refine n_pick_true ?_
          refine m_nil ?_
          refine f_t ?_
          refine k_t ?_
          refine k_seq ?_
          refine k_reg ?_
          refine l_assign ?_
          refine k_nil ?_
          refine f_t ?_
          refine k_retc ?_
          refine f_tr ?_
          refine f_br ?_
          refine f_br ?_
          exact k_brk [] hB h
        refine n_on ?_
        refine n_move ?_
        refine gq ?_
        refine n_on ?_
        refine n_at h (fun v36 _ h => ?_)
        refine gq ?_
        refine n_on ?_
        refine n_load ?_
        refine gq ?_
        refine n_on ?_
        refine n_cmp ?_
        refine gq ?_
        refine n_pick_false ?_
        refine gq ?_
        refine n_move ?_
        refine gq ?_
        refine n_split h (fun _ h => ?_) (fun _ h => ?_)
        · refine n_off ?_
          refine gq ?_
          refine n_off ?_
          refine gq ?_
          refine n_off ?_
          refine gq ?_
          refine n_off ?_
          refine gq ?_
          refine n_pick_true ?_
          refine gq ?_
          refine n_move ?_
          refine gq ?_
          refine n_off ?_
          refine gq ?_
          refine n_off ?_
          refine gq ?_
          refine n_off ?_
          refine gq ?_
          refine n_off ?_
          refine gq ?_
          refine n_pick_true ?_
          refine m_nil ?_
          refine f_t ?_
          refine k_t ?_
          refine k_seq ?_
          refine k_reg ?_
          refine l_assign ?_
          refine k_nil ?_
          refine f_t ?_
          refine k_retc ?_
          refine f_tr ?_
          refine f_br ?_
          refine f_br ?_
          exact k_brk [] hB h
        refine n_on ?_
        refine n_move ?_
        refine gq ?_
        refine n_on ?_
        refine n_at h (fun v37 _ h => ?_)
        refine gq ?_
        refine n_on ?_
        refine n_load ?_
        refine gq ?_
        refine n_on ?_
        refine n_cmp ?_
        refine gq ?_
        refine n_pick_false ?_
        refine gq ?_
        refine n_move ?_
        refine gq ?_
        refine n_split h (fun _ h => ?_) (fun _ h => ?_)
        · refine n_off ?_
          refine gq ?_
          refine n_off ?_
          refine gq ?_
          refine n_off ?_
          refine gq ?_
          refine n_off ?_
          refine gq ?_
          refine n_pick_true ?_
          refine m_nil ?_
          refine f_t ?_
          refine k_t ?_
          refine k_seq ?_
          refine k_reg ?_
          refine l_assign ?_
          refine k_nil ?_
          refine f_t ?_
          refine k_retc ?_
          refine f_tr ?_
          refine f_br ?_
          refine f_br ?_
          exact k_brk [] hB h
        refine n_on ?_
        refine n_move ?_
        refine gq ?_
        refine n_on ?_
        refine n_at h (fun v38 _ h => ?_)
        refine gq ?_
        refine n_on ?_
        refine n_load ?_
        refine gq ?_
        refine n_on ?_
        refine n_cmp ?_
        refine gq ?_
        refine n_pick_false ?_
        refine m_nil ?_
        refine f_t ?_
        refine k_if h (fun _ h => ?_) (fun _ h => ?_)
        · refine k_seq ?_
          refine k_reg ?_
          refine l_assign ?_
          refine k_nil ?_
          refine f_t ?_
          refine k_retc ?_
          refine f_tr ?_
          refine f_br ?_
          refine f_br ?_
          exact k_brk [] hB h
        refine k_skip ?_
        refine f_t ?_
        refine k_reg ?_
        refine l_move ?_
        refine l_subf h (fun v39 _ h => ?_)
        refine l_assign ?_
        refine k_nil ?_
        refine f_b ?_
        refine f_b ?_
        exact k_next [] hB h
      refine k_seq ?_
      refine k_reg ?_
      refine l_assign ?_
      refine k_nil ?_
      refine f_t ?_
      refine k_retc ?_
      refine f_br ?_
      refine f_br ?_
      exact k_brk [] hB h
    refine k_exit ?_
    refine f_te ?_
    exact k_brk [] hB h
  rcases q with q40 | q41
  · dsimp only [Sum.elim] at h ⊢
    refine f_br ?_
    refine f_tr ?_
    apply k_ret [] hB h
  dsimp only [Sum.elim] at h ⊢
  refine f_be ?_
  refine f_t ?_
  refine k_seq ?_
  refine k_reg ?_
  refine l_assign ?_
  refine k_nil ?_
  refine f_t ?_
  refine k_retc ?_
  apply k_ret [] hB h
theorem utf_Valid_ok {b : (List UInt8)} {r : Bool} (h : utf_Valid b = some r) : XSpec Tryz.prog 118 [.vs b.length (F cU b)] [] (B r) [] [] := by
  unfold utf_Valid at h
  refine X_of_run Tryz.hU Tryz.func118 (fun _ _ _ hB => ?_)
  refine k_seq ?_
  refine k_reg ?_
  refine l_assign ?_
  refine k_nil ?_
  refine f_t ?_
  refine k_seq ?_
  refine k_reg ?_
  refine l_move ?_
  refine l_call h (fun _ => utf8_Valid_ok) (fun v1 _ h => ?_)
  refine l_assign ?_
  refine k_nil ?_
  refine f_t ?_
  refine k_retc ?_
  apply k_ret [] hB h
theorem utf8_decodeRuneSlow_ok {p : (List UInt8)} {r : Int × Int} (h : utf8_decodeRuneSlow p = some r) : XSpec Tryz.prog 161 [.vs p.length (F cU p)] [] (.tup [.pl (.int .i32 r.1), I r.2]) [] [] := by
  unfold utf8_decodeRuneSlow at h
  refine X_of_run Tryz.hU Tryz.func161 (fun _ _ _ hB => ?_)
  refine k_seq ?_
  refine k_reg ?_
  refine l_assign ?_
  refine l_assign ?_
  refine k_nil ?_
  refine f_t ?_
  refine k_seq ?_
  refine k_reg ?_
  refine l_move ?_
  refine l_len ?_
  refine l_assign ?_
  refine k_nil ?_
  refine f_t ?_
  refine k_seq ?_
  refine k_seq ?_
  refine k_reg ?_
  refine l_move ?_
  refine l_cmp ?_
  refine k_nil ?_
  refine f_t ?_
  refine k_if h (fun _ h => ?_) (fun _ h => ?_)
  · refine k_seq ?_
    refine k_reg ?_
    refine l_assign ?_
    refine l_assign ?_
    refine k_nil ?_
    refine f_t ?_
    refine k_retc ?_
    refine f_tr ?_
    apply k_ret [] hB h
  refine k_skip ?_
  refine f_t ?_
  refine k_seq ?_
  refine k_reg ?_
  refine l_move ?_
  refine l_at h (fun v1 _ h => ?_)
  refine l_load ?_
  refine l_assign ?_
  refine k_nil ?_
  refine f_t ?_
  refine k_seq ?_
  refine k_reg ?_
  refine l_move ?_
  refine l_atg (ev := (fun x : UInt8 => [Value.int .u8 (x.toNat : Int)])) 0 h (fun v2 _ h => ?_)
  refine l_load ?_
  refine l_assign ?_
  refine k_nil ?_
  refine f_t ?_
  refine k_seq ?_
  refine k_seq ?_
  refine k_reg ?_
  refine l_move ?_
  refine l_cmp ?_
  refine k_nil ?_
  refine f_t ?_
  refine k_if h (fun _ h => ?_) (fun _ h => ?_)
  · refine k_seq ?_
    refine k_reg ?_
    refine l_move ?_
    refine l_conv_int ?_
    refine l_shlC (r := (w32 (v2.toNat : Int)) * 2 ^ 31) ?_
    refine l_shrC (r := ((w32 ((w32 (v2.toNat : Int)) * 2 ^ 31)).fdiv (2 ^ 31))) ?_
    refine l_assign ?_
    refine k_nil ?_
    refine f_t ?_
    refine k_seq ?_
    refine k_reg ?_
    refine l_move ?_
    refine l_at h (fun v3 _ h => ?_)
    refine l_load ?_
    refine l_conv_int ?_
    refine l_move ?_
    refine l_bits ?_
    refine l_move ?_
    refine l_bits ?_
    refine l_bits ?_
    refine l_assign ?_
    refine l_assign ?_
    refine k_nil ?_
    refine f_t ?_
    refine k_retc ?_
    refine f_tr ?_
    apply k_ret [] hB h
  refine k_skip ?_
  refine f_t ?_
  refine k_seq ?_
  refine k_reg ?_
  refine l_move ?_
  refine l_bitsU ?_
  refine l_conv_int ?_
  refine l_assign ?_
  refine k_nil ?_
  refine f_t ?_
  refine k_seq ?_
  refine k_reg ?_
  refine l_move ?_
  refine l_shrU v2 4 ?_
  refine l_atg (ev := (fun x : TAcceptRange => [Value.int .u8 (x.lo.toNat : Int), Value.int .u8 (x.hi.toNat : Int)])) 1 h (fun v4 _ h => ?_)
  refine l_load_agg ?_
  refine l_alloc ?_
  refine l_store_box ?_
  refine k_nil ?_
  refine f_t ?_
  refine k_seq ?_
  refine k_seq ?_
  refine k_reg ?_
  refine l_move ?_
  refine l_move ?_
  refine l_cmp ?_
  refine k_nil ?_
  refine f_t ?_
  refine k_if h (fun _ h => ?_) (fun _ h => ?_)
  · refine k_seq ?_
    refine k_reg ?_
    refine l_assign ?_
    refine l_assign ?_
    refine k_nil ?_
    refine f_t ?_
    refine k_retc ?_
    refine f_tr ?_
    apply k_ret [] hB h
  refine k_skip ?_
  refine f_t ?_
  refine k_seq ?_
  refine k_reg ?_
  refine l_move ?_
  refine l_at h (fun v5 _ h => ?_)
  refine l_load ?_
  refine l_assign ?_
  refine k_nil ?_
  refine f_t ?_
  refine k_seq ?_
  refine k_seq ?_
  refine k_cut (fun q6 => (.normal, ⟨[(0, .vs p.length (F cU p)), (5, U v1), (8, I (w64 ((u8 (band 8 (v2.toNat : Int) 7)).toNat : Int))), (10, U v5), (60, B q6)], [], []⟩)) h (fun t h => ?_) (fun q6 h => ?_)
  · refine k_reg ?_
    refine l_move ?_
    refine l_fieldAddr ?_
    refine l_load ?_
    refine l_cmp ?_
    refine l_move ?_
    refine l_split h (fun _ h => ?_) (fun _ h => ?_)
    · refine l_off ?_
      refine l_off ?_
      refine l_off ?_
      refine l_off ?_
      refine l_pick_true ?_
      refine k_nil ?_
      exact k_out [] hB h
    refine l_on ?_
    refine l_fieldAddr ?_
    refine l_on ?_
    refine l_load ?_
    refine l_on ?_
    refine l_move ?_
    refine l_on ?_
    refine l_cmp ?_
    refine l_pick_false ?_
    refine k_nil ?_
    exact k_out [] hB h
  refine f_t ?_
  refine k_if h (fun _ h => ?_) (fun _ h => ?_)
  · refine k_seq ?_
    refine k_reg ?_
    refine l_assign ?_
    refine l_assign ?_
    refine k_nil ?_
    refine f_t ?_
    refine k_retc ?_
    refine f_tr ?_
    apply k_ret [] hB h
  refine k_skip ?_
  refine f_t ?_
  refine k_seq ?_
  refine k_seq ?_
  refine k_reg ?_
  refine l_move ?_
  refine l_cmp ?_
  refine k_nil ?_
  refine f_t ?_
  refine k_if h (fun _ h => ?_) (fun _ h => ?_)
  · refine k_seq ?_
    refine k_reg ?_
    refine l_move ?_
    refine l_bitsU ?_
    refine l_conv_int ?_
    refine l_shlC (r := (w32 ((u8 (band 8 (v1.toNat : Int) 31)).toNat : Int)) * 2 ^ 6) ?_
    refine l_move ?_
    refine l_bitsU ?_
    refine l_conv_int ?_
    refine l_bits ?_
    refine l_assign ?_
    refine l_assign ?_
    refine k_nil ?_
    refine f_t ?_
    refine k_retc ?_
    refine f_tr ?_
    apply k_ret [] hB h
  refine k_skip ?_
  refine f_t ?_
  refine k_seq ?_
  refine k_reg ?_
  refine l_move ?_
  refine l_at h (fun v7 _ h => ?_)
  refine l_load ?_
  refine l_assign ?_
  refine k_nil ?_
  refine f_t ?_
  refine k_seq ?_
  refine k_seq ?_
  refine k_cut (fun q8 => (.normal, ⟨[(0, .vs p.length (F cU p)), (5, U v1), (8, I (w64 ((u8 (band 8 (v2.toNat : Int) 7)).toNat : Int))), (10, U v5), (11, U v7), (79, B q8)], [], []⟩)) h (fun t h => ?_) (fun q8 h => ?_)
  · refine k_reg ?_
    refine l_move ?_
    refine l_cmp ?_
    refine l_move ?_
    refine l_split h (fun _ h => ?_) (fun _ h => ?_)
    · refine l_off ?_
      refine l_off ?_
      refine l_pick_true ?_
      refine k_nil ?_
      exact k_out [] hB h
    refine l_on ?_
    refine l_move ?_
    refine l_on ?_
    refine l_cmp ?_
    refine l_pick_false ?_
    refine k_nil ?_
    exact k_out [] hB h
  refine f_t ?_
  refine k_if h (fun _ h => ?_) (fun _ h => ?_)
  · refine k_seq ?_
    refine k_reg ?_
    refine l_assign ?_
    refine l_assign ?_
    refine k_nil ?_
    refine f_t ?_
    refine k_retc ?_
    refine f_tr ?_
    apply k_ret [] hB h
  refine k_skip ?_
  refine f_t ?_
  refine k_seq ?_
  refine k_seq ?_
  refine k_reg ?_
  refine l_move ?_
  refine l_cmp ?_
  refine k_nil ?_
  refine f_t ?_
  refine k_if h (fun _ h => ?_) (fun _ h => ?_)
  · refine k_seq ?_
    refine k_reg ?_
    refine l_move ?_
    refine l_bitsU ?_
    refine l_conv_int ?_
    refine l_shlC (r := (w32 ((u8 (band 8 (v1.toNat : Int) 15)).toNat : Int)) * 2 ^ 12) ?_
    refine l_move ?_
    refine l_bitsU ?_
    refine l_conv_int ?_
    refine l_shlC (r := (w32 ((u8 (band 8 (v5.toNat : Int) 63)).toNat : Int)) * 2 ^ 6) ?_
    refine l_bits ?_
    refine l_move ?_
    refine l_bitsU ?_
    refine l_conv_int ?_
    refine l_bits ?_
    refine l_assign ?_
    refine l_assign ?_
    refine k_nil ?_
    refine f_t ?_
    refine k_retc ?_
    refine f_tr ?_
    apply k_ret [] hB h
  refine k_skip ?_
  refine f_t ?_
  refine k_seq ?_
  refine k_reg ?_
  refine l_move ?_
  refine l_at h (fun v9 _ h => ?_)
  refine l_load ?_
  refine l_assign ?_
  refine k_nil ?_
  refine f_t ?_
  refine k_seq ?_
  refine k_seq ?_
  refine k_cut (fun q10 => (.normal, ⟨[(5, U v1), (10, U v5), (11, U v7), (12, U v9), (103, B q10)], [], []⟩)) h (fun t h => ?_) (fun q10 h => ?_)
  · refine k_reg ?_
    refine l_move ?_
    refine l_cmp ?_
    refine l_move ?_
    refine l_split h (fun _ h => ?_) (fun _ h => ?_)
    · refine l_off ?_
      refine l_off ?_
      refine l_pick_true ?_
      refine k_nil ?_
      exact k_out [] hB h
    refine l_on ?_
    refine l_move ?_
    refine l_on ?_
    refine l_cmp ?_
    refine l_pick_false ?_
    refine k_nil ?_
    exact k_out [] hB h
  refine f_t ?_
  refine k_if h (fun _ h => ?_) (fun _ h => ?_)
  · refine k_seq ?_
    refine k_reg ?_
    refine l_assign ?_
    refine l_assign ?_
    refine k_nil ?_
    refine f_t ?_
    refine k_retc ?_
    refine f_tr ?_
    apply k_ret [] hB h
  refine k_skip ?_
  refine f_t ?_
  refine k_seq ?_
  refine k_reg ?_
  refine l_move ?_
  refine l_bitsU ?_
  refine l_conv_int ?_
  refine l_shlC (r := (w32 ((u8 (band 8 (v1.toNat : Int) 7)).toNat : Int)) * 2 ^ 18) ?_
  refine l_move ?_
  refine l_bitsU ?_
  refine l_conv_int ?_
  refine l_shlC (r := (w32 ((u8 (band 8 (v5.toNat : Int) 63)).toNat : Int)) * 2 ^ 12) ?_
  refine l_bits ?_
  refine l_move ?_
  refine l_bitsU ?_
  refine l_conv_int ?_
  refine l_shlC (r := (w32 ((u8 (band 8 (v7.toNat : Int) 63)).toNat : Int)) * 2 ^ 6) ?_
  refine l_bits ?_
  refine l_move ?_
  refine l_bitsU ?_
  refine l_conv_int ?_
  refine l_bits ?_
  refine l_assign ?_
  refine l_assign ?_
  refine k_nil ?_
  refine f_t ?_
  refine k_retc ?_
  apply k_ret [] hB h
theorem utf8_DecodeRune_ok {p : (List UInt8)} {r : Int × Int} (h : utf8_DecodeRune p = some r) : XSpec Tryz.prog 119 [.vs p.length (F cU p)] [] (.tup [.pl (.int .i32 r.1), I r.2]) [] [] := by
  unfold utf8_DecodeRune at h
  refine X_of_run Tryz.hU Tryz.func119 (fun _ _ _ hB => ?_)
  refine k_seq ?_
  refine k_reg ?_
  refine l_assign ?_
  refine l_assign ?_
  refine k_nil ?_
  refine f_t ?_
  refine k_seq ?_
  refine k_seq ?_
  refine k_reg ?_
  refine l_move ?_
  refine l_len ?_
  refine l_move ?_
  refine k_nil ?_
  refine f_t ?_
  refine k_block ?_
  refine k_loop (fun y1 => ⟨[(0, .vs p.length (F cU p)), (6, .vs p.length (F cU p)), (7, I (p.length : Int)), (8, I 0)], [], []⟩) (Sum.elim (fun q3 => (.ret, ⟨[(2, .pl (.int .i32 q3)), (3, I 1)], [], []⟩)) (fun q4 => (.exit 0, ⟨[(0, .vs p.length (F cU p))], [], []⟩))) [] hB h (fun y1 t h => ?_) (fun q h => ?_)
  · unfold utf8_DecodeRune_b1 at h
    refine k_seq ?_
    refine k_reg ?_
    refine l_cmp ?_
    refine k_nil ?_
    refine f_t ?_
    refine k_seq ?_
    refine k_if h (fun _ h => ?_) (fun _ h => ?_)
    · refine k_skip ?_
      refine f_t ?_
      refine k_seq ?_
      refine k_block ?_
      refine k_seq ?_
      refine k_reg ?_
      refine l_at h (fun v2 _ h => ?_)
      refine l_load ?_
      refine l_assign ?_
      refine k_nil ?_
      refine f_t ?_
      refine k_seq ?_
      refine k_seq ?_
      refine k_reg ?_
      refine l_move ?_
      refine l_cmp ?_
      refine k_nil ?_
      refine f_t ?_
      refine k_if h (fun _ h => ?_) (fun _ h => ?_)
      · refine k_seq ?_
        refine k_reg ?_
        refine l_move ?_
        refine l_conv_int ?_
        refine l_assign ?_
        refine l_assign ?_
        refine k_nil ?_
        refine f_t ?_
        refine k_retc ?_
        refine f_tr ?_
        refine f_br ?_
        refine f_tr ?_
        exact k_brk [] hB h
      refine k_skip ?_
      refine f_t ?_
      refine k_exit ?_
      refine f_bo ?_
      refine f_te ?_
      exact k_brk [] hB h
    refine k_exit ?_
    refine f_te ?_
    exact k_brk [] hB h
  rcases q with q3 | q4
  · dsimp only [Sum.elim] at h ⊢
    refine f_br ?_
    refine f_tr ?_
    apply k_ret [] hB h
  dsimp only [Sum.elim] at h ⊢
  refine f_be ?_
  refine f_t ?_
  refine k_seq ?_
  refine k_reg ?_
  refine l_move ?_
  refine l_call h (fun _ => utf8_decodeRuneSlow_ok) (fun v5 _ h => ?_)
  refine l_move ?_
  refine l_extract ?_
  refine l_extract ?_
  refine l_assign ?_
  refine l_assign ?_
  refine k_nil ?_
  refine f_t ?_
  refine k_retc ?_
  apply k_ret [] hB h
theorem utf_Chars_ok {b : (List UInt8)} {r : (List Int) × Bool} (h : utf_Chars b = some r) : XSpec Tryz.prog 76 [.vs b.length (F cU b)] [] (.tup [.sl 1 0 r.1.length, B r.2]) [(1, .row 21 1 0 (F cR r.1))] [] := by
  unfold utf_Chars at h
  refine X_of_run Tryz.hU Tryz.func76 (fun _ _ _ hB => ?_)
  refine k_seq ?_
  refine k_reg ?_
  refine l_assign ?_
  refine l_assign ?_
  refine k_nil ?_
  refine f_t ?_
  refine k_seq ?_
  refine k_seq ?_
  refine k_reg ?_
  refine l_move ?_
  refine l_call h (fun _ => utf_Valid_ok) (fun v1 _ h => ?_)
  refine l_un ?_
  refine k_nil ?_
  refine f_t ?_
  refine k_if h (fun _ h => ?_) (fun _ h => ?_)
  · refine k_seq ?_
    refine k_reg ?_
    refine l_assign ?_
    refine l_assign ?_
    refine k_nil ?_
    refine f_t ?_
    refine k_retc ?_
    refine f_tr ?_
    refine f_nilrow (te := 21) (t := 2) 3002 1 ?_
    apply k_ret [(3002, 1)] hB h
  refine k_skip ?_
  refine f_t ?_
  refine k_seq ?_
  refine k_reg ?_
  refine l_assign ?_
  refine k_nil ?_
  refine f_t ?_
  refine k_seq ?_
  refine k_seq ?_
  refine k_reg ?_
  refine l_assign ?_
  refine k_nil ?_
  refine f_t ?_
  refine k_block ?_
  refine k_nilrow (te := 21) (t := 4) 3004 1 ?_
  refine k_loop (fun y2 => ⟨[(0, .vs b.length (F cU b)), (4, .sl 3004 0 y2.2.length), (5, I y2.1)], [(3004, .row 21 1 0 (F cR y2.2))], []⟩) (fun q6 => (.exit 0, ⟨[(4, .sl 3004 0 q6.length)], [(3004, .row 21 1 0 (F cR q6))], []⟩)) [(3004, 3004)] hB h (fun y2 t h => ?_) (fun q6 h => ?_)
  · unfold utf_Chars_b1 at h
    refine k_seq ?_
    refine k_seq ?_
    refine k_reg ?_
    refine l_move ?_
    refine l_move ?_
    refine l_len ?_
    refine l_cmp ?_
    refine k_nil ?_
    refine f_t ?_
    refine k_if h (fun _ h => ?_) (fun _ h => ?_)
    · refine k_skip ?_
      refine f_t ?_
      refine k_block ?_
      refine k_seq ?_
      refine k_reg ?_
      refine l_move ?_
      refine l_move ?_
      refine l_subf h (fun v3 _ h => ?_)
      refine l_call h (fun _ => utf8_DecodeRune_ok) (fun v4 _ h => ?_)
      refine l_move ?_
      refine l_extract ?_
      refine l_extract ?_
      refine l_assign ?_
      refine l_assign ?_
      refine k_nil ?_
      refine f_t ?_
      refine k_seq ?_
      refine k_reg ?_
      refine l_move ?_
      refine l_move ?_
      refine l_lit (e := cR) [v4.1] ?_
      refine l_appo h (fun v5 _ h => ?_)
      refine l_assign ?_
      refine k_nil ?_
      refine f_t ?_
      refine k_reg ?_
      refine l_move ?_
      refine l_move ?_
      refine l_addw ?_
      refine l_assign ?_
      refine k_nil ?_
      refine f_b ?_
      exact k_next [(3004, 3004)] hB h
    refine k_exit ?_
    refine f_te ?_
    exact k_brk [(3004, 3004)] hB h
  refine f_be ?_
  refine f_t ?_
  refine k_seq ?_
  refine k_reg ?_
  refine l_move ?_
  refine l_assign ?_
  refine l_assign ?_
  refine k_nil ?_
  refine f_t ?_
  refine k_retc ?_
  apply k_ret [(3004, 1)] hB h
theorem utf_Xml_ok {r_ : Int} {r : Bool} (h : utf_Xml r_ = some r) : XSpec Tryz.prog 77 [.pl (.int .i32 r_)] [] (B r) [] [] := by
  unfold utf_Xml at h
  refine X_of_run Tryz.hU Tryz.func77 (fun _ _ _ hB => ?_)
  refine k_seq ?_
  refine k_reg ?_
  refine l_assign ?_
  refine k_nil ?_
  refine f_t ?_
  refine k_seq ?_
  refine k_cut (Sum.elim (fun q1 => (.ret, ⟨[(2, B true)], [], []⟩)) (fun q2 => (.normal, ⟨[(0, .pl (.int .i32 r_))], [], []⟩))) h (fun t h => ?_) (fun q h => ?_)
  · refine k_block ?_
    refine k_seq ?_
    refine k_seq ?_
    refine k_reg ?_
    refine l_move ?_
    refine l_cmp ?_
    refine l_assign ?_
    refine k_nil ?_
    refine f_t ?_
    refine k_if h (fun _ h => ?_) (fun _ h => ?_)
    · refine k_skip ?_
      refine f_t ?_
      refine k_if h (fun _ h => ?_) (fun _ h => ?_)
      · refine k_seq ?_
        refine k_reg ?_
        refine l_assign ?_
        refine k_nil ?_
        refine f_t ?_
        refine k_retc ?_
        refine f_br ?_
        exact k_out [] hB h
      refine k_skip ?_
      refine f_b ?_
      exact k_out [] hB h
    refine k_seq ?_
    refine k_reg ?_
    refine l_move ?_
    refine l_cmp ?_
    refine l_assign ?_
    refine k_nil ?_
    refine f_t ?_
    refine k_if h (fun _ h => ?_) (fun _ h => ?_)
    · refine k_skip ?_
      refine f_t ?_
      refine k_if h (fun _ h => ?_) (fun _ h => ?_)
      · refine k_seq ?_
        refine k_reg ?_
        refine l_assign ?_
        refine k_nil ?_
        refine f_t ?_
        refine k_retc ?_
        refine f_br ?_
        exact k_out [] hB h
      refine k_skip ?_
      refine f_b ?_
      exact k_out [] hB h
    refine k_reg ?_
    refine l_move ?_
    refine l_cmp ?_
    refine l_assign ?_
    refine k_nil ?_
    refine f_t ?_
    refine k_if h (fun _ h => ?_) (fun _ h => ?_)
    · refine k_seq ?_
      refine k_reg ?_
      refine l_assign ?_
      refine k_nil ?_
      refine f_t ?_
      refine k_retc ?_
      refine f_br ?_
      exact k_out [] hB h
    refine k_skip ?_
    refine f_b ?_
    exact k_out [] hB h
  rcases q with q1 | q2
  · dsimp only [Sum.elim] at h ⊢
    refine f_tr ?_
    apply k_ret [] hB h
  dsimp only [Sum.elim] at h ⊢
  refine f_t ?_
  refine k_seq ?_
  refine k_reg ?_
  refine l_move ?_
  refine l_cmp ?_
  refine l_move ?_
  refine l_split h (fun _ h => ?_) (fun _ h => ?_)
  · refine l_on ?_
    refine l_move ?_
    refine l_on ?_
    refine l_cmp ?_
    refine l_pick_true ?_
    refine l_move ?_
    refine l_split h (fun _ h => ?_) (fun _ h => ?_)
    · refine l_off ?_
      refine l_off ?_
      refine l_off ?_
      refine l_off ?_
      refine l_off ?_
      refine l_off ?_
      refine l_pick_true ?_
      refine l_move ?_
      refine l_off ?_
      refine l_off ?_
      refine l_off ?_
      refine l_off ?_
      refine l_off ?_
      refine l_off ?_
      refine l_pick_true ?_
      refine l_assign ?_
      refine k_nil ?_
      refine f_t ?_
      refine k_retc ?_
      apply k_ret [] hB h
    refine l_on ?_
    refine l_move ?_
    refine l_on ?_
    refine l_cmp ?_
    refine l_on ?_
    refine l_move ?_
    refine l_split h (fun _ h => ?_) (fun _ h => ?_)
    · refine l_on ?_
      refine l_move ?_
      refine l_on ?_
      refine l_cmp ?_
      refine l_on ?_
      refine l_pick_true ?_
      refine l_pick_false ?_
      refine l_move ?_
      refine l_split h (fun _ h => ?_) (fun _ h => ?_)
      · refine l_off ?_
        refine l_off ?_
        refine l_off ?_
        refine l_off ?_
        refine l_off ?_
        refine l_off ?_
        refine l_pick_true ?_
        refine l_assign ?_
        refine k_nil ?_
        refine f_t ?_
        refine k_retc ?_
        apply k_ret [] hB h
      refine l_on ?_
      refine l_move ?_
      refine l_on ?_
      refine l_cmp ?_
      refine l_on ?_
      refine l_move ?_
      refine l_split h (fun _ h => ?_) (fun _ h => ?_)
      · refine l_on ?_
        refine l_move ?_
        refine l_on ?_
        refine l_cmp ?_
        refine l_on ?_
        refine l_pick_true ?_
        refine l_pick_false ?_
        refine l_assign ?_
        refine k_nil ?_
        refine f_t ?_
        refine k_retc ?_
        apply k_ret [] hB h
      refine l_off ?_
      refine l_off ?_
      refine l_on ?_
      refine l_pick_false ?_
      refine l_pick_false ?_
      refine l_assign ?_
      refine k_nil ?_
      refine f_t ?_
      refine k_retc ?_
      apply k_ret [] hB h
    refine l_off ?_
    refine l_off ?_
    refine l_on ?_
    refine l_pick_false ?_
    refine l_pick_false ?_
    refine l_move ?_
    refine l_on ?_
    refine l_move ?_
    refine l_on ?_
    refine l_cmp ?_
    refine l_on ?_
    refine l_move ?_
    refine l_split h (fun _ h => ?_) (fun _ h => ?_)
    · refine l_on ?_
      refine l_move ?_
      refine l_on ?_
      refine l_cmp ?_
      refine l_on ?_
      refine l_pick_true ?_
      refine l_pick_false ?_
      refine l_assign ?_
      refine k_nil ?_
      refine f_t ?_
      refine k_retc ?_
      apply k_ret [] hB h
    refine l_off ?_
    refine l_off ?_
    refine l_on ?_
    refine l_pick_false ?_
    refine l_pick_false ?_
    refine l_assign ?_
    refine k_nil ?_
    refine f_t ?_
    refine k_retc ?_
    apply k_ret [] hB h
  refine l_off ?_
  refine l_off ?_
  refine l_pick_false ?_
  refine l_move ?_
  refine l_on ?_
  refine l_move ?_
  refine l_on ?_
  refine l_cmp ?_
  refine l_on ?_
  refine l_move ?_
  refine l_split h (fun _ h => ?_) (fun _ h => ?_)
  · refine l_on ?_
    refine l_move ?_
    refine l_on ?_
    refine l_cmp ?_
    refine l_on ?_
    refine l_pick_true ?_
    refine l_pick_false ?_
    refine l_move ?_
    refine l_split h (fun _ h => ?_) (fun _ h => ?_)
    · refine l_off ?_
      refine l_off ?_
      refine l_off ?_
      refine l_off ?_
      refine l_off ?_
      refine l_off ?_
      refine l_pick_true ?_
      refine l_assign ?_
      refine k_nil ?_
      refine f_t ?_
      refine k_retc ?_
      apply k_ret [] hB h
    refine l_on ?_
    refine l_move ?_
    refine l_on ?_
    refine l_cmp ?_
    refine l_on ?_
    refine l_move ?_
    refine l_split h (fun _ h => ?_) (fun _ h => ?_)
    · refine l_on ?_
      refine l_move ?_
      refine l_on ?_
      refine l_cmp ?_
      refine l_on ?_
      refine l_pick_true ?_
      refine l_pick_false ?_
      refine l_assign ?_
      refine k_nil ?_
      refine f_t ?_
      refine k_retc ?_
      apply k_ret [] hB h
    refine l_off ?_
    refine l_off ?_
    refine l_on ?_
    refine l_pick_false ?_
    refine l_pick_false ?_
    refine l_assign ?_
    refine k_nil ?_
    refine f_t ?_
    refine k_retc ?_
    apply k_ret [] hB h
  refine l_off ?_
  refine l_off ?_
  refine l_on ?_
  refine l_pick_false ?_
  refine l_pick_false ?_
  refine l_move ?_
  refine l_on ?_
  refine l_move ?_
  refine l_on ?_
  refine l_cmp ?_
  refine l_on ?_
  refine l_move ?_
  refine l_split h (fun _ h => ?_) (fun _ h => ?_)
  · refine l_on ?_
    refine l_move ?_
    refine l_on ?_
    refine l_cmp ?_
    refine l_on ?_
    refine l_pick_true ?_
    refine l_pick_false ?_
    refine l_assign ?_
    refine k_nil ?_
    refine f_t ?_
    refine k_retc ?_
    apply k_ret [] hB h
  refine l_off ?_
  refine l_off ?_
  refine l_on ?_
  refine l_pick_false ?_
  refine l_pick_false ?_
  refine l_assign ?_
  refine k_nil ?_
  refine f_t ?_
  refine k_retc ?_
  apply k_ret [] hB h
theorem utf_Text_ok {b : (List UInt8)} {r : Bool} (h : utf_Text b = some r) : XSpec Tryz.prog 50 [.vs b.length (F cU b)] [] (B r) [] [] := by
  unfold utf_Text at h
  refine X_of_run Tryz.hU Tryz.func50 (fun _ _ _ hB => ?_)
  refine k_seq ?_
  refine k_reg ?_
  refine l_assign ?_
  refine k_nil ?_
  refine f_t ?_
  refine k_seq ?_
  refine k_reg ?_
  refine l_move ?_
  refine l_callX [(1, 100901)] [] h (fun _ => utf_Chars_ok) (fun v1 _ h => ?_)
  refine l_move ?_
  refine l_extract ?_
  refine l_extract ?_
  refine l_assign ?_
  refine l_assign ?_
  refine k_nil ?_
  refine f_t ?_
  refine k_seq ?_
  refine k_seq ?_
  refine k_reg ?_
  refine l_move ?_
  refine l_len ?_
  refine l_move ?_
  refine k_nil ?_
  refine f_t ?_
  refine k_block ?_
  refine k_loop (fun y2 => ⟨[(4, B y2.1), (12, .sl 100901 0 v1.1.length), (13, I (v1.1.length : Int)), (14, I y2.2)], [(100901, .row 21 1 0 (F cR v1.1))], []⟩) (fun q5 => (.exit 0, ⟨[(4, B q5)], [], []⟩)) [(100901, 100901)] hB h (fun y2 t h => ?_) (fun q5 h => ?_)
  · unfold utf_Text_b1 at h
    refine k_seq ?_
    refine k_reg ?_
    refine l_cmp ?_
    refine k_nil ?_
    refine f_t ?_
    refine k_seq ?_
    refine k_if h (fun _ h => ?_) (fun _ h => ?_)
    · refine k_skip ?_
      refine f_t ?_
      refine k_seq ?_
      refine k_block ?_
      refine k_seq ?_
      refine k_reg ?_
      refine l_ato h (fun v3 ev3 h => ?_)
      refine l_ldr0 ev3 ?_
      refine l_assign ?_
      refine k_nil ?_
      refine f_t ?_
      refine k_reg ?_
      refine l_move ?_
      refine l_move ?_
      refine l_split h (fun _ h => ?_) (fun _ h => ?_)
      · refine l_on ?_
        refine l_move ?_
        refine l_on ?_
        refine l_call h (fun _ => utf_Xml_ok) (fun v4 _ h => ?_)
        refine l_pick_true ?_
        refine l_assign ?_
        refine k_nil ?_
        refine f_b ?_
        refine f_t ?_
        refine k_reg ?_
        refine l_addw ?_
        refine l_move ?_
        refine k_nil ?_
        exact k_next [(100901, 100901)] hB h
      refine l_off ?_
      refine l_off ?_
      refine l_pick_false ?_
      refine l_assign ?_
      refine k_nil ?_
      refine f_b ?_
      refine f_t ?_
      refine k_reg ?_
      refine l_addw ?_
      refine l_move ?_
      refine k_nil ?_
      exact k_next [(100901, 100901)] hB h
    refine k_exit ?_
    refine f_te ?_
    exact k_brk [] hB h
  refine f_be ?_
  refine f_t ?_
  refine k_seq ?_
  refine k_reg ?_
  refine l_move ?_
  refine l_assign ?_
  refine k_nil ?_
  refine f_t ?_
  refine k_retc ?_
  apply k_ret [] hB h
theorem strings_Count_ok {s sep : Str} {r : Int} (h : strings_Count s sep = some r) : XSpec Tryz.prog 162 [S s, S sep] [] (I r) [] [] := by
  unfold strings_Count at h
  cases e : decide (s.length < 4294967281 ∧ 1 ≤ sep.length) with
  | false => rw [e] at h; cases h
  | true =>
    rw [e] at h; cases h
    have e := of_decide_eq_true e
    exact lift_x (args := [.string ⟨s.toArray⟩, .string ⟨sep.toArray⟩]) (fun es w => enters_of Tryz.func162 (by kernel_rfl) rfl es w) (fun w hi => by
      obtain ⟨n, hn⟩ := hi 2 (by decide)
      exact Tryz.strings_Count_any ⟨s.toArray⟩ ⟨sep.toArray⟩ n w e.1 hn e.2)
theorem stringslite_Index_ok {s sep : Str} {r : Int} (h : stringslite_Index s sep = some r) : XSpec Tryz.prog 200 [S s, S sep] [] (I r) [] [] := by
  unfold stringslite_Index at h
  cases e : decide (s.length < 4294967281) with
  | false => rw [e] at h; cases h
  | true =>
    rw [e] at h; cases h
    have e := of_decide_eq_true e
    exact lift_x (args := [.string ⟨s.toArray⟩, .string ⟨sep.toArray⟩]) (fun es w => enters_of Tryz.func200 (by kernel_rfl) rfl es w) (fun w hi => by
      obtain ⟨n, hn⟩ := hi 2 (by decide)
      exact Tryz.stringslite_Index ⟨s.toArray⟩ ⟨sep.toArray⟩ n w e hn)
theorem strings_Index_ok {s : Str} {substr : Str} {r : Int} (h : strings_Index s substr = some r) : XSpec Tryz.prog 164 [S s, S substr] [] (I r) [] [] := by
  unfold strings_Index at h
  refine X_of_run Tryz.hU Tryz.func164 (fun _ _ _ hB => ?_)
  refine k_seq ?_
  refine k_reg ?_
  refine l_assign ?_
  refine k_nil ?_
  refine f_t ?_
  refine k_seq ?_
  refine k_reg ?_
  refine l_move ?_
  refine l_move ?_
  refine l_call h (fun _ => stringslite_Index_ok) (fun v1 _ h => ?_)
  refine l_assign ?_
  refine k_nil ?_
  refine f_t ?_
  refine k_retc ?_
  apply k_ret [] hB h
theorem utf8_decodeRuneInStringSlow_ok {s : Str} {r : Int × Int} (h : utf8_decodeRuneInStringSlow s = some r) : XSpec Tryz.prog 201 [S s] [] (.tup [.pl (.int .i32 r.1), I r.2]) [] [] := by
  unfold utf8_decodeRuneInStringSlow at h
  refine X_of_run Tryz.hU Tryz.func201 (fun _ _ _ hB => ?_)
  refine k_seq ?_
  refine k_reg ?_
  refine l_assign ?_
  refine l_assign ?_
  refine k_nil ?_
  refine f_t ?_
  refine k_seq ?_
  refine k_reg ?_
  refine l_move ?_
  refine l_lens ?_
  refine l_assign ?_
  refine k_nil ?_
  refine f_t ?_
  refine k_seq ?_
  refine k_seq ?_
  refine k_reg ?_
  refine l_move ?_
  refine l_cmp ?_
  refine k_nil ?_
  refine f_t ?_
  refine k_if h (fun _ h => ?_) (fun _ h => ?_)
  · refine k_seq ?_
    refine k_reg ?_
    refine l_assign ?_
    refine l_assign ?_
    refine k_nil ?_
    refine f_t ?_
    refine k_retc ?_
    refine f_tr ?_
    apply k_ret [] hB h
  refine k_skip ?_
  refine f_t ?_
  refine k_seq ?_
  refine k_reg ?_
  refine l_move ?_
  refine l_ats h (fun v1 _ h => ?_)
  refine l_assign ?_
  refine k_nil ?_
  refine f_t ?_
  refine k_seq ?_
  refine k_reg ?_
  refine l_move ?_
  refine l_atg (ev := (fun x : UInt8 => [Value.int .u8 (x.toNat : Int)])) 0 h (fun v2 _ h => ?_)
  refine l_load ?_
  refine l_assign ?_
  refine k_nil ?_
  refine f_t ?_
  refine k_seq ?_
  refine k_seq ?_
  refine k_reg ?_
  refine l_move ?_
  refine l_cmp ?_
  refine k_nil ?_
  refine f_t ?_
  refine k_if h (fun _ h => ?_) (fun _ h => ?_)
  · refine k_seq ?_
    refine k_reg ?_
    refine l_move ?_
    refine l_conv_int ?_
    refine l_shlC (r := (w32 (v2.toNat : Int)) * 2 ^ 31) ?_
    refine l_shrC (r := ((w32 ((w32 (v2.toNat : Int)) * 2 ^ 31)).fdiv (2 ^ 31))) ?_
    refine l_assign ?_
    refine k_nil ?_
    refine f_t ?_
    refine k_seq ?_
    refine k_reg ?_
    refine l_move ?_
    refine l_ats h (fun v3 _ h => ?_)
    refine l_conv_int ?_
    refine l_move ?_
    refine l_bits ?_
    refine l_move ?_
    refine l_bits ?_
    refine l_bits ?_
    refine l_assign ?_
    refine l_assign ?_
    refine k_nil ?_
    refine f_t ?_
    refine k_retc ?_
    refine f_tr ?_
    apply k_ret [] hB h
  refine k_skip ?_
  refine f_t ?_
  refine k_seq ?_
  refine k_reg ?_
  refine l_move ?_
  refine l_bitsU ?_
  refine l_conv_int ?_
  refine l_assign ?_
  refine k_nil ?_
  refine f_t ?_
  refine k_seq ?_
  refine k_reg ?_
  refine l_move ?_
  refine l_shrU v2 4 ?_
  refine l_atg (ev := (fun x : TAcceptRange => [Value.int .u8 (x.lo.toNat : Int), Value.int .u8 (x.hi.toNat : Int)])) 1 h (fun v4 _ h => ?_)
  refine l_load_agg ?_
  refine l_alloc ?_
  refine l_store_box ?_
  refine k_nil ?_
  refine f_t ?_
  refine k_seq ?_
  refine k_seq ?_
  refine k_reg ?_
  refine l_move ?_
  refine l_move ?_
  refine l_cmp ?_
  refine k_nil ?_
  refine f_t ?_
  refine k_if h (fun _ h => ?_) (fun _ h => ?_)
  · refine k_seq ?_
    refine k_reg ?_
    refine l_assign ?_
    refine l_assign ?_
    refine k_nil ?_
    refine f_t ?_
    refine k_retc ?_
    refine f_tr ?_
    apply k_ret [] hB h
  refine k_skip ?_
  refine f_t ?_
  refine k_seq ?_
  refine k_reg ?_
  refine l_move ?_
  refine l_ats h (fun v5 _ h => ?_)
  refine l_assign ?_
  refine k_nil ?_
  refine f_t ?_
  refine k_seq ?_
  refine k_seq ?_
  refine k_cut (fun q6 => (.normal, ⟨[(0, S s), (5, U v1), (8, I (w64 ((u8 (band 8 (v2.toNat : Int) 7)).toNat : Int))), (10, U v5), (57, B q6)], [], []⟩)) h (fun t h => ?_) (fun q6 h => ?_)
  · refine k_reg ?_
    refine l_move ?_
    refine l_fieldAddr ?_
    refine l_load ?_
    refine l_cmp ?_
    refine l_move ?_
    refine l_split h (fun _ h => ?_) (fun _ h => ?_)
    · refine l_off ?_
      refine l_off ?_
      refine l_off ?_
      refine l_off ?_
      refine l_pick_true ?_
      refine k_nil ?_
      exact k_out [] hB h
    refine l_on ?_
    refine l_fieldAddr ?_
    refine l_on ?_
    refine l_load ?_
    refine l_on ?_
    refine l_move ?_
    refine l_on ?_
    refine l_cmp ?_
    refine l_pick_false ?_
    refine k_nil ?_
    exact k_out [] hB h
  refine f_t ?_
  refine k_if h (fun _ h => ?_) (fun _ h => ?_)
  · refine k_seq ?_
    refine k_reg ?_
    refine l_assign ?_
    refine l_assign ?_
    refine k_nil ?_
    refine f_t ?_
    refine k_retc ?_
    refine f_tr ?_
    apply k_ret [] hB h
  refine k_skip ?_
  refine f_t ?_
  refine k_seq ?_
  refine k_seq ?_
  refine k_reg ?_
  refine l_move ?_
  refine l_cmp ?_
  refine k_nil ?_
  refine f_t ?_
  refine k_if h (fun _ h => ?_) (fun _ h => ?_)
  · refine k_seq ?_
    refine k_reg ?_
    refine l_move ?_
    refine l_bitsU ?_
    refine l_conv_int ?_
    refine l_shlC (r := (w32 ((u8 (band 8 (v1.toNat : Int) 31)).toNat : Int)) * 2 ^ 6) ?_
    refine l_move ?_
    refine l_bitsU ?_
    refine l_conv_int ?_
    refine l_bits ?_
    refine l_assign ?_
    refine l_assign ?_
    refine k_nil ?_
    refine f_t ?_
    refine k_retc ?_
    refine f_tr ?_
    apply k_ret [] hB h
  refine k_skip ?_
  refine f_t ?_
  refine k_seq ?_
  refine k_reg ?_
  refine l_move ?_
  refine l_ats h (fun v7 _ h => ?_)
  refine l_assign ?_
  refine k_nil ?_
  refine f_t ?_
  refine k_seq ?_
  refine k_seq ?_
  refine k_cut (fun q8 => (.normal, ⟨[(0, S s), (5, U v1), (8, I (w64 ((u8 (band 8 (v2.toNat : Int) 7)).toNat : Int))), (10, U v5), (11, U v7), (75, B q8)], [], []⟩)) h (fun t h => ?_) (fun q8 h => ?_)
  · refine k_reg ?_
    refine l_move ?_
    refine l_cmp ?_
    refine l_move ?_
    refine l_split h (fun _ h => ?_) (fun _ h => ?_)
    · refine l_off ?_
      refine l_off ?_
      refine l_pick_true ?_
      refine k_nil ?_
      exact k_out [] hB h
    refine l_on ?_
    refine l_move ?_
    refine l_on ?_
    refine l_cmp ?_
    refine l_pick_false ?_
    refine k_nil ?_
    exact k_out [] hB h
  refine f_t ?_
  refine k_if h (fun _ h => ?_) (fun _ h => ?_)
  · refine k_seq ?_
    refine k_reg ?_
    refine l_assign ?_
    refine l_assign ?_
    refine k_nil ?_
    refine f_t ?_
    refine k_retc ?_
    refine f_tr ?_
    apply k_ret [] hB h
  refine k_skip ?_
  refine f_t ?_
  refine k_seq ?_
  refine k_seq ?_
  refine k_reg ?_
  refine l_move ?_
  refine l_cmp ?_
  refine k_nil ?_
  refine f_t ?_
  refine k_if h (fun _ h => ?_) (fun _ h => ?_)
  · refine k_seq ?_
    refine k_reg ?_
    refine l_move ?_
    refine l_bitsU ?_
    refine l_conv_int ?_
    refine l_shlC (r := (w32 ((u8 (band 8 (v1.toNat : Int) 15)).toNat : Int)) * 2 ^ 12) ?_
    refine l_move ?_
    refine l_bitsU ?_
    refine l_conv_int ?_
    refine l_shlC (r := (w32 ((u8 (band 8 (v5.toNat : Int) 63)).toNat : Int)) * 2 ^ 6) ?_
    refine l_bits ?_
    refine l_move ?_
    refine l_bitsU ?_
    refine l_conv_int ?_
    refine l_bits ?_
    refine l_assign ?_
    refine l_assign ?_
    refine k_nil ?_
    refine f_t ?_
    refine k_retc ?_
    refine f_tr ?_
    apply k_ret [] hB h
  refine k_skip ?_
  refine f_t ?_
  refine k_seq ?_
  refine k_reg ?_
  refine l_move ?_
  refine l_ats h (fun v9 _ h => ?_)
  refine l_assign ?_
  refine k_nil ?_
  refine f_t ?_
  refine k_seq ?_
  refine k_seq ?_
  refine k_cut (fun q10 => (.normal, ⟨[(5, U v1), (10, U v5), (11, U v7), (12, U v9), (98, B q10)], [], []⟩)) h (fun t h => ?_) (fun q10 h => ?_)
  · refine k_reg ?_
    refine l_move ?_
    refine l_cmp ?_
    refine l_move ?_
    refine l_split h (fun _ h => ?_) (fun _ h => ?_)
    · refine l_off ?_
      refine l_off ?_
      refine l_pick_true ?_
      refine k_nil ?_
      exact k_out [] hB h
    refine l_on ?_
    refine l_move ?_
    refine l_on ?_
    refine l_cmp ?_
    refine l_pick_false ?_
    refine k_nil ?_
    exact k_out [] hB h
  refine f_t ?_
  refine k_if h (fun _ h => ?_) (fun _ h => ?_)
  · refine k_seq ?_
    refine k_reg ?_
    refine l_assign ?_
    refine l_assign ?_
    refine k_nil ?_
    refine f_t ?_
    refine k_retc ?_
    refine f_tr ?_
    apply k_ret [] hB h
  refine k_skip ?_
  refine f_t ?_
  refine k_seq ?_
  refine k_reg ?_
  refine l_move ?_
  refine l_bitsU ?_
  refine l_conv_int ?_
  refine l_shlC (r := (w32 ((u8 (band 8 (v1.toNat : Int) 7)).toNat : Int)) * 2 ^ 18) ?_
  refine l_move ?_
  refine l_bitsU ?_
  refine l_conv_int ?_
  refine l_shlC (r := (w32 ((u8 (band 8 (v5.toNat : Int) 63)).toNat : Int)) * 2 ^ 12) ?_
  refine l_bits ?_
  refine l_move ?_
  refine l_bitsU ?_
  refine l_conv_int ?_
  refine l_shlC (r := (w32 ((u8 (band 8 (v7.toNat : Int) 63)).toNat : Int)) * 2 ^ 6) ?_
  refine l_bits ?_
  refine l_move ?_
  refine l_bitsU ?_
  refine l_conv_int ?_
  refine l_bits ?_
  refine l_assign ?_
  refine l_assign ?_
  refine k_nil ?_
  refine f_t ?_
  refine k_retc ?_
  apply k_ret [] hB h
theorem utf8_DecodeRuneInString_ok {s : Str} {r : Int × Int} (h : utf8_DecodeRuneInString s = some r) : XSpec Tryz.prog 165 [S s] [] (.tup [.pl (.int .i32 r.1), I r.2]) [] [] := by
  unfold utf8_DecodeRuneInString at h
  refine X_of_run Tryz.hU Tryz.func165 (fun _ _ _ hB => ?_)
  refine k_seq ?_
  refine k_reg ?_
  refine l_assign ?_
  refine l_assign ?_
  refine k_nil ?_
  refine f_t ?_
  refine k_seq ?_
  refine k_seq ?_
  refine k_reg ?_
  refine l_move ?_
  refine l_sne ?_
  refine l_move ?_
  refine l_split h (fun _ h => ?_) (fun _ h => ?_)
  · refine l_on ?_
    refine l_move ?_
    refine l_on ?_
    refine l_ats h (fun v1 _ h => ?_)
    refine l_on ?_
    refine l_cmp ?_
    refine l_pick_true ?_
    refine k_nil ?_
    refine f_t ?_
    refine k_if h (fun _ h => ?_) (fun _ h => ?_)
    · refine k_seq ?_
      refine k_reg ?_
      refine l_move ?_
      refine l_ats h (fun v2 _ h => ?_)
      refine l_conv_int ?_
      refine l_assign ?_
      refine l_assign ?_
      refine k_nil ?_
      refine f_t ?_
      refine k_retc ?_
      refine f_tr ?_
      apply k_ret [] hB h
    refine k_reg ?_
    refine l_move ?_
    refine l_call h (fun _ => utf8_decodeRuneInStringSlow_ok) (fun v3 _ h => ?_)
    refine l_move ?_
    refine l_extract ?_
    refine l_extract ?_
    refine l_assign ?_
    refine l_assign ?_
    refine k_nil ?_
    refine f_t ?_
    refine k_retc ?_
    apply k_ret [] hB h
  refine l_off ?_
  refine l_off ?_
  refine l_off ?_
  refine l_pick_false ?_
  refine k_nil ?_
  refine f_t ?_
  refine k_f ?_
  refine k_reg ?_
  refine l_move ?_
  refine l_call h (fun _ => utf8_decodeRuneInStringSlow_ok) (fun v4 _ h => ?_)
  refine l_move ?_
  refine l_extract ?_
  refine l_extract ?_
  refine l_assign ?_
  refine l_assign ?_
  refine k_nil ?_
  refine f_t ?_
  refine k_retc ?_
  apply k_ret [] hB h
theorem strings_Builder_copyCheck_s2_ok {u1 : Bool} {r : Unit} (h : strings_Builder_copyCheck_s2 u1 = some r) : XSpec Tryz.prog 109 [.ptr 2000101 0] [(2000101, .box 93 [.nptr u1 2000101 0, .pl (.slice none 0 0)])] (.tup []) [(2000101, .box 93 [.nptr false 2000101 0, .pl (.slice none 0 0)])] [] := by
  unfold strings_Builder_copyCheck_s2 at h
  refine X_of_run Tryz.hU Tryz.func109 (fun _ _ _ hB => ?_)
  refine k_seq ?_
  refine k_reg ?_
  refine l_move ?_
  refine l_nilCheck ?_
  refine l_fieldAddr ?_
  refine l_load ?_
  cases u1 with
  | true =>
    replace h := bif_t h
    refine l_pnilp ?_
    refine k_nil ?_
    refine f_t ?_
    refine k_t ?_
    refine k_reg ?_
    refine l_move ?_
    refine l_move ?_
    refine l_tounsafe ?_
    refine l_nat (noEscape_spec Tryz.func153 (.ptr 2000101 0 : AV)) ?_
    refine l_fromunsafe (P := Tryz.prog) ?_
    refine l_nilCheck ?_
    refine l_fieldAddr ?_
    refine l_store_box ?_
    refine k_nil ?_
    apply k_ret [(2000101, 2000101)] hB h
  | false =>
    replace h := bif_f h
    refine l_pnilp ?_
    refine k_nil ?_
    refine f_t ?_
    refine k_f ?_
    refine k_seq ?_
    refine k_reg ?_
    refine l_move ?_
    refine l_nilCheck ?_
    refine l_fieldAddr ?_
    refine l_load ?_
    refine l_move ?_
    refine l_neqself ?_
    refine k_nil ?_
    refine f_t ?_
    refine k_f ?_
    refine k_skip ?_
    apply k_ret [(2000101, 2000101)] hB h
theorem strings_Builder_grow_s3_ok {u1 : Int} {u2 : Bool} {r : Unit} (h : strings_Builder_grow_s3 u1 u2 = some r) : XSpec Tryz.prog 199 [.ptr 3000101 0, I u1] [(3000101, .box 93 [.nptr u2 3000101 0, .pl (.slice none 0 0)])] (.tup []) [(3000101, .box 93 [.nptr u2 3000101 0, .sl 3000151 0 0]), (3000151, .row 5 1 0 (F cU []))] [] := by
  unfold strings_Builder_grow_s3 at h
  refine X_of_run Tryz.hU Tryz.func199 (fun _ _ _ hB => ?_)
  refine k_seq ?_
  refine k_mix [] (.q 0 (.q 1 (.q 2 (.q 3 (.q 4 (.q 5 (.q 6 (.q 7 (.q 9 (.q 10 (.q 11 (.q 12 (.q 13 (.e 8 (.q 14 (.q 15 (.done))))))))))))))))) hm ?_
  refine gq ?_
  refine n_move ?_
  refine gq ?_
  refine n_nilCheck ?_
  refine gq ?_
  refine n_fieldAddr ?_
  refine gq ?_
  refine n_load ?_
  refine gq ?_
  refine n_capn ?_
  refine gq ?_
  refine n_mulw ?_
  refine gq ?_
  refine n_move ?_
  refine gq ?_
  refine n_addw ?_
  refine gq ?_
  refine n_move ?_
  refine gq ?_
  refine n_nilCheck ?_
  refine gq ?_
  refine n_fieldAddr ?_
  refine gq ?_
  refine n_load ?_
  refine gq ?_
  refine n_lenn ?_
  refine ge ?_
  refine n_mnz Tryz.func227 h (fun v1 _ h => ?_)
  refine gq ?_
  refine n_subp h (fun h => ?_)
  refine gq ?_
  refine n_assign ?_
  refine m_nil ?_
  refine f_t ?_
  refine k_seq ?_
  refine k_reg ?_
  refine l_move ?_
  refine l_move ?_
  refine l_nilCheck ?_
  refine l_fieldAddr ?_
  refine l_load ?_
  refine l_copy0 ?_
  refine k_nil ?_
  refine f_t ?_
  refine k_reg ?_
  refine l_move ?_
  refine l_move ?_
  refine l_nilCheck ?_
  refine l_fieldAddr ?_
  refine l_store_box ?_
  refine k_nil ?_
  apply k_ret [(3000101, 3000101), (1013, 3000151)] hB h
theorem strings_Builder_Grow_s1_ok {u1 : Int} {u2 : Bool} {r : Unit} (h : strings_Builder_Grow_s1 u1 u2 = some r) : XSpec Tryz.prog 163 [.ptr 1000101 0, I u1] [(1000101, .box 93 [.nptr u2 1000101 0, .pl (.slice none 0 0)])] (.tup []) [(1000101, .box 93 [.nptr false 1000101 0, .sl 1000151 0 0]), (1000151, .row 5 1 0 (F cU []))] [] := by
  unfold strings_Builder_Grow_s1 at h
  refine X_of_run Tryz.hU Tryz.func163 (fun _ _ _ hB => ?_)
  refine k_seq ?_
  refine k_reg ?_
  refine l_move ?_
  refine l_callX [(2000101, 1000101)] [1000101] h (fun _ => strings_Builder_copyCheck_s2_ok) (fun v1 _ h => ?_)
  refine k_nil ?_
  refine f_t ?_
  refine k_seq ?_
  refine k_seq ?_
  refine k_reg ?_
  refine l_move ?_
  refine l_cmp ?_
  refine k_nil ?_
  refine f_t ?_
  refine k_if h (fun _ h => ?_) (fun _ h => ?_)
  · refine k_reg ?_
    cases h
  refine k_skip ?_
  refine f_t ?_
  refine k_seq ?_
  refine k_mix [] (.q 0 (.q 1 (.q 2 (.q 3 (.q 4 (.q 5 (.q 6 (.q 7 (.q 8 (.q 9 (.q 10 (.q 11 (.q 12 (.done)))))))))))))) hm ?_
  refine gq ?_
  refine n_move ?_
  refine gq ?_
  refine n_nilCheck ?_
  refine gq ?_
  refine n_fieldAddr ?_
  refine gq ?_
  refine n_load ?_
  refine gq ?_
  refine n_capn ?_
  refine gq ?_
  refine n_move ?_
  refine gq ?_
  refine n_nilCheck ?_
  refine gq ?_
  refine n_fieldAddr ?_
  refine gq ?_
  refine n_load ?_
  refine gq ?_
  refine n_lenn ?_
  refine gq ?_
  refine n_subw ?_
  refine gq ?_
  refine n_move ?_
  refine gq ?_
  refine n_cmp ?_
  refine m_nil ?_
  refine f_t ?_
  refine k_if h (fun _ h => ?_) (fun _ h => ?_)
  · refine k_reg ?_
    refine l_move ?_
    refine l_move ?_
    refine l_callX [(3000101, 1000101), (3000151, 102451)] [1000101] h (fun _ => strings_Builder_grow_s3_ok) (fun v2 _ h => ?_)
    refine k_nil ?_
    apply k_ret [(1000101, 1000101), (102451, 1000151)] hB h
  refine k_skip ?_
  refine f_nilcell (te := 5) (b1 := 1000101) (j := 1) 10004011 1 ?_
  apply k_ret [(1000101, 1000101), (10004011, 1000151)] hB h
theorem strings_Builder_copyCheck_s5_ok {u1 : Bool} {u2 : (List UInt8)} {r : Unit} (h : strings_Builder_copyCheck_s5 u1 u2 = some r) : XSpec Tryz.prog 109 [.ptr 5000101 0] [(5000101, .box 93 [.nptr u1 5000101 0, .sl 5000102 0 u2.length]), (5000102, .row 5 1 0 (F cU u2))] (.tup []) [(5000101, .box 93 [.nptr false 5000101 0, .sl 5000102 0 u2.length]), (5000102, .row 5 1 0 (F cU u2))] [] := by
  unfold strings_Builder_copyCheck_s5 at h
  refine X_of_run Tryz.hU Tryz.func109 (fun _ _ _ hB => ?_)
  refine k_seq ?_
  refine k_reg ?_
  refine l_move ?_
  refine l_nilCheck ?_
  refine l_fieldAddr ?_
  refine l_load ?_
  cases u1 with
  | true =>
    replace h := bif_t h
    refine l_pnilp ?_
    refine k_nil ?_
    refine f_t ?_
    refine k_t ?_
    refine k_reg ?_
    refine l_move ?_
    refine l_move ?_
    refine l_tounsafe ?_
    refine l_nat (noEscape_spec Tryz.func153 (.ptr 5000101 0 : AV)) ?_
    refine l_fromunsafe (P := Tryz.prog) ?_
    refine l_nilCheck ?_
    refine l_fieldAddr ?_
    refine l_store_box ?_
    refine k_nil ?_
    apply k_ret [(5000101, 5000101), (5000102, 5000102)] hB h
  | false =>
    replace h := bif_f h
    refine l_pnilp ?_
    refine k_nil ?_
    refine f_t ?_
    refine k_f ?_
    refine k_seq ?_
    refine k_reg ?_
    refine l_move ?_
    refine l_nilCheck ?_
    refine l_fieldAddr ?_
    refine l_load ?_
    refine l_move ?_
    refine l_neqself ?_
    refine k_nil ?_
    refine f_t ?_
    refine k_f ?_
    refine k_skip ?_
    apply k_ret [(5000101, 5000101), (5000102, 5000102)] hB h
theorem strings_Builder_WriteString_s4_ok {u1 : Str} {u2 : Bool} {u3 : (List UInt8)} {r : Int × (List UInt8)} (h : strings_Builder_WriteString_s4 u1 u2 u3 = some r) : XSpec Tryz.prog 70 [.ptr 4000101 0, S u1] [(4000101, .box 93 [.nptr u2 4000101 0, .sl 4000102 0 u3.length]), (4000102, .row 5 1 0 (F cU u3))] (.tup [I r.1, .pl .nilIface]) [(4000101, .box 93 [.nptr false 4000101 0, .sl 4000102 0 r.2.length]), (4000102, .row 5 1 0 (F cU r.2))] [4000102] := by
  unfold strings_Builder_WriteString_s4 at h
  refine X_of_run Tryz.hU Tryz.func70 (fun _ _ _ hB => ?_)
  refine k_seq ?_
  refine k_reg ?_
  refine l_assign ?_
  refine l_assign ?_
  refine k_nil ?_
  refine f_t ?_
  refine k_seq ?_
  refine k_reg ?_
  refine l_move ?_
  refine l_callX [(5000101, 4000101), (5000102, 4000102)] [4000101, 4000102] h (fun _ => strings_Builder_copyCheck_s5_ok) (fun v1 _ h => ?_)
  refine k_nil ?_
  refine f_t ?_
  refine k_seq ?_
  refine k_reg ?_
  refine l_move ?_
  refine l_move ?_
  refine l_nilCheck ?_
  refine l_fieldAddr ?_
  refine l_load ?_
  refine l_move ?_
  refine l_apps h (fun v2 _ h => ?_)
  refine l_nilCheck ?_
  refine l_fieldAddr ?_
  refine l_store_box ?_
  refine k_nil ?_
  refine f_t ?_
  refine k_seq ?_
  refine k_reg ?_
  refine l_move ?_
  refine l_lens ?_
  refine l_assign ?_
  refine l_assign ?_
  refine k_nil ?_
  refine f_t ?_
  refine k_retc ?_
  apply k_ret [(4000101, 4000101), (4000102, 4000102)] hB h
theorem strings_Builder_String_s6_ok {u1 : Bool} {u2 : (List UInt8)} {r : Str} (h : strings_Builder_String_s6 u1 u2 = some r) : XSpec Tryz.prog 71 [.ptr 6000101 0] [(6000101, .box 93 [.nptr u1 6000101 0, .sl 6000102 0 u2.length]), (6000102, .row 5 1 0 (F cU u2))] (S r) [(6000101, .box 93 [.nptr u1 6000101 0, .junk])] [6000102] := by
  unfold strings_Builder_String_s6 at h
  refine X_of_run Tryz.hU Tryz.func71 (fun _ _ _ hB => ?_)
  refine k_seq ?_
  refine k_reg ?_
  refine l_assign ?_
  refine k_nil ?_
  refine f_t ?_
  refine k_seq ?_
  refine k_mix [10] (.q 0 (.q 1 (.q 2 (.q 3 (.q 5 (.q 6 (.q 7 (.q 8 (.q 9 (.e 4 (.e 10 (.q 11 (.done))))))))))))) hm ?_
  refine gq ?_
  refine n_move ?_
  refine gq ?_
  refine n_nilCheck ?_
  refine gq ?_
  refine n_fieldAddr ?_
  refine gq ?_
  refine n_load ?_
  refine gq ?_
  refine n_move ?_
  refine gq ?_
  refine n_nilCheck ?_
  refine gq ?_
  refine n_fieldAddr ?_
  refine gq ?_
  refine n_load ?_
  refine gq ?_
  refine n_len ?_
  refine ge ?_
  refine n_usd ?_
  refine ge ?_
  refine n_ustr h (fun v1 _ h => ?_)
  refine gq ?_
  refine n_assign ?_
  refine m_nil ?_
  refine f_t ?_
  refine k_retc ?_
  apply k_ret [(6000101, 6000101)] hB h
theorem strings_Replace_ok {s : Str} {old : Str} {new : Str} {n : Int} {r : Str} (h : strings_Replace s old new n = some r) : XSpec Tryz.prog 120 [S s, S old, S new, I n] [] (S r) [] [] := by
  unfold strings_Replace at h
  refine X_of_run Tryz.hU Tryz.func120 (fun _ _ _ hB => ?_)
  refine k_seq ?_
  refine k_reg ?_
  refine l_assign ?_
  refine k_nil ?_
  refine f_t ?_
  refine k_seq ?_
  refine k_seq ?_
  refine k_cut (fun q1 => (.normal, ⟨[(0, S s), (1, S old), (2, S new), (3, I n), (22, B q1)], [], []⟩)) h (fun t h => ?_) (fun q1 h => ?_)
  · refine k_reg ?_
    refine l_move ?_
    refine l_move ?_
    refine l_seq ?_
    refine l_move ?_
    refine l_split h (fun _ h => ?_) (fun _ h => ?_)
    · refine l_off ?_
      refine l_off ?_
      refine l_pick_true ?_
      refine k_nil ?_
      exact k_out [] hB h
    refine l_on ?_
    refine l_move ?_
    refine l_on ?_
    refine l_cmp ?_
    refine l_pick_false ?_
    refine k_nil ?_
    exact k_out [] hB h
  refine f_t ?_
  refine k_if h (fun _ h => ?_) (fun _ h => ?_)
  · refine k_seq ?_
    refine k_reg ?_
    refine l_move ?_
    refine l_assign ?_
    refine k_nil ?_
    refine f_t ?_
    refine k_retc ?_
    refine f_tr ?_
    apply k_ret [] hB h
  refine k_skip ?_
  refine f_t ?_
  refine k_seq ?_
  refine k_seq ?_
  refine k_reg ?_
  refine l_move ?_
  refine l_move ?_
  refine l_call h (fun _ => strings_Count_ok) (fun v2 _ h => ?_)
  refine l_assign ?_
  refine k_nil ?_
  refine f_t ?_
  refine k_seq ?_
  refine k_reg ?_
  refine l_move ?_
  refine l_cmp ?_
  refine k_nil ?_
  refine f_t ?_
  refine k_if h (fun _ h => ?_) (fun _ h => ?_)
  · refine k_seq ?_
    refine k_reg ?_
    refine l_move ?_
    refine l_assign ?_
    refine k_nil ?_
    refine f_t ?_
    refine k_retc ?_
    refine f_tr ?_
    apply k_ret [] hB h
  refine k_seq ?_
  refine k_cut (fun q3 => (.normal, ⟨[(0, S s), (1, S old), (2, S new), (3, I n), (9, I v2), (36, B q3)], [], []⟩)) h (fun t h => ?_) (fun q3 h => ?_)
  · refine k_reg ?_
    refine l_move ?_
    refine l_cmp ?_
    refine l_move ?_
    refine l_split h (fun _ h => ?_) (fun _ h => ?_)
    · refine l_off ?_
      refine l_off ?_
      refine l_off ?_
      refine l_pick_true ?_
      refine k_nil ?_
      exact k_out [] hB h
    refine l_on ?_
    refine l_move ?_
    refine l_on ?_
    refine l_move ?_
    refine l_on ?_
    refine l_cmp ?_
    refine l_pick_false ?_
    refine k_nil ?_
    exact k_out [] hB h
  refine f_t ?_
  refine k_if h (fun _ h => ?_) (fun _ h => ?_)
  · refine k_reg ?_
    refine l_move ?_
    refine l_assign ?_
    refine k_nil ?_
    refine f_t ?_
    refine k_seq ?_
    refine k_reg ?_
    refine l_alloc ?_
    refine k_nil ?_
    refine f_t ?_
    refine k_seq ?_
    refine k_reg ?_
    refine l_move ?_
    refine l_lens ?_
    refine l_move ?_
    refine l_move ?_
    refine l_lens ?_
    refine l_move ?_
    refine l_lens ?_
    refine l_subw ?_
    refine l_mulw ?_
    refine l_addw ?_
    refine l_npcell (b := 1010) (j := 0) 1010 0 ?_
    refine l_callX [(1000101, 1010), (1000151, 104851)] [1010] h (fun _ => strings_Builder_Grow_s1_ok) (fun v4 _ h => ?_)
    refine k_nil ?_
    refine f_t ?_
    refine k_seq ?_
    refine k_reg ?_
    refine l_assign ?_
    refine k_nil ?_
    refine f_t ?_
    refine k_seq ?_
    refine k_seq ?_
    refine k_reg ?_
    refine l_move ?_
    refine l_lens ?_
    refine l_cmp ?_
    refine k_nil ?_
    refine f_t ?_
    refine k_if h (fun _ h => ?_) (fun _ h => ?_)
    · refine k_seq ?_
      refine k_reg ?_
      refine l_move ?_
      refine l_move ?_
      refine k_nil ?_
      refine f_t ?_
      refine k_block ?_
      refine k_loop (fun y5 => ⟨[(0, S s), (1, S old), (2, S new), (10, .ptr 1010 0), (11, I y5.1), (52, I v2), (53, I y5.2.1)], [(1010, .box 93 [.nptr false 1010 0, .sl 104851 0 y5.2.2.length]), (104851, .row 5 1 0 (F cU y5.2.2))], []⟩) (fun q11 => (.exit 0, ⟨[(0, S s), (10, .ptr 1010 0), (11, I q11.1)], [(1010, .box 93 [.nptr false 1010 0, .sl 104851 0 q11.2.length]), (104851, .row 5 1 0 (F cU q11.2))], []⟩)) [(1010, 1010), (104851, 104851)] hB h (fun y5 t h => ?_) (fun q11 h => ?_)
      · unfold strings_Replace_b1 at h
        refine k_seq ?_
        refine k_reg ?_
        refine l_cmp ?_
        refine k_nil ?_
        refine f_t ?_
        refine k_seq ?_
        refine k_if h (fun _ h => ?_) (fun _ h => ?_)
        · refine k_skip ?_
          refine f_t ?_
          refine k_seq ?_
          refine k_block ?_
          refine k_seq ?_
          refine k_reg ?_
          refine l_move ?_
          refine l_move ?_
          refine l_move ?_
          refine l_subs h (fun v6 _ h => ?_)
          refine l_move ?_
          refine l_call h (fun _ => strings_Index_ok) (fun v7 _ h => ?_)
          refine l_addw ?_
          refine l_assign ?_
          refine k_nil ?_
          refine f_t ?_
          refine k_seq ?_
          refine k_reg ?_
          refine l_move ?_
          refine l_move ?_
          refine l_move ?_
          refine l_subs h (fun v8 _ h => ?_)
          refine l_callX [(4000101, 1010), (4000102, 104851)] [1010, 104851] h (fun _ => strings_Builder_WriteString_s4_ok) (fun v9 _ h => ?_)
          refine k_nil ?_
          refine f_t ?_
          refine k_seq ?_
          refine k_reg ?_
          refine l_move ?_
          refine l_callX [(4000101, 1010), (4000102, 104851)] [1010, 104851] h (fun _ => strings_Builder_WriteString_s4_ok) (fun v10 _ h => ?_)
          refine k_nil ?_
          refine f_t ?_
          refine k_reg ?_
          refine l_move ?_
          refine l_move ?_
          refine l_lens ?_
          refine l_addw ?_
          refine l_assign ?_
          refine k_nil ?_
          refine f_b ?_
          refine f_t ?_
          refine k_reg ?_
          refine l_addw ?_
          refine l_move ?_
          refine k_nil ?_
          exact k_next [(1010, 1010), (104851, 104851)] hB h
        refine k_exit ?_
        refine f_te ?_
        exact k_brk [(1010, 1010), (104851, 104851)] hB h
      refine f_be ?_
      refine f_t ?_
      refine k_seq ?_
      refine k_reg ?_
      refine l_move ?_
      refine l_move ?_
      refine l_subs h (fun v12 _ h => ?_)
      refine l_callX [(4000101, 1010), (4000102, 104851)] [1010, 104851] h (fun _ => strings_Builder_WriteString_s4_ok) (fun v13 _ h => ?_)
      refine k_nil ?_
      refine f_t ?_
      refine k_seq ?_
      refine k_reg ?_
      refine l_callX [(6000101, 1010), (6000102, 104851)] [1010, 104851] h (fun _ => strings_Builder_String_s6_ok) (fun v14 _ h => ?_)
      refine l_assign ?_
      refine k_nil ?_
      refine f_t ?_
      refine k_retc ?_
      apply k_ret [] hB h
    refine k_seq ?_
    refine k_reg ?_
    refine l_move ?_
    refine l_callX [(4000101, 1010), (4000102, 104851)] [1010, 104851] h (fun _ => strings_Builder_WriteString_s4_ok) (fun v15 _ h => ?_)
    refine k_nil ?_
    refine f_t ?_
    refine k_seq ?_
    refine k_reg ?_
    refine l_move ?_
    refine l_subw ?_
    refine l_move ?_
    refine k_nil ?_
    refine f_t ?_
    refine k_block ?_
    refine k_loop (fun y16 => ⟨[(0, S s), (2, S new), (10, .ptr 1010 0), (11, I y16.1), (77, I (w64 (v2 - 1))), (78, I y16.2.1)], [(1010, .box 93 [.nptr false 1010 0, .sl 104851 0 y16.2.2.length]), (104851, .row 5 1 0 (F cU y16.2.2))], [104851]⟩) (fun q22 => (.exit 2, ⟨[(0, S s), (10, .ptr 1010 0), (11, I q22.1)], [(1010, .box 93 [.nptr false 1010 0, .sl 104851 0 q22.2.length]), (104851, .row 5 1 0 (F cU q22.2))], [104851]⟩)) [(1010, 1010), (104851, 104851)] hB h (fun y16 t h => ?_) (fun q22 h => ?_)
    · unfold strings_Replace_b2 at h
      refine k_seq ?_
      refine k_reg ?_
      refine l_cmp ?_
      refine k_nil ?_
      refine f_t ?_
      refine k_seq ?_
      refine k_if h (fun _ h => ?_) (fun _ h => ?_)
      · refine k_skip ?_
        refine f_t ?_
        refine k_seq ?_
        refine k_block ?_
        refine k_seq ?_
        refine k_reg ?_
        refine l_move ?_
        refine l_move ?_
        refine l_subs h (fun v17 _ h => ?_)
        refine l_call h (fun _ => utf8_DecodeRuneInString_ok) (fun v18 _ h => ?_)
        refine l_move ?_
        refine l_extract ?_
        refine l_extract ?_
        refine l_assign ?_
        refine l_assign ?_
        refine k_nil ?_
        refine f_t ?_
        refine k_seq ?_
        refine k_reg ?_
        refine l_move ?_
        refine l_move ?_
        refine l_addw ?_
        refine l_assign ?_
        refine k_nil ?_
        refine f_t ?_
        refine k_seq ?_
        refine k_reg ?_
        refine l_move ?_
        refine l_move ?_
        refine l_move ?_
        refine l_subs h (fun v19 _ h => ?_)
        refine l_callX [(4000101, 1010), (4000102, 104851)] [1010, 104851] h (fun _ => strings_Builder_WriteString_s4_ok) (fun v20 _ h => ?_)
        refine k_nil ?_
        refine f_t ?_
        refine k_seq ?_
        refine k_reg ?_
        refine l_move ?_
        refine l_callX [(4000101, 1010), (4000102, 104851)] [1010, 104851] h (fun _ => strings_Builder_WriteString_s4_ok) (fun v21 _ h => ?_)
        refine k_nil ?_
        refine f_t ?_
        refine k_reg ?_
        refine l_move ?_
        refine l_assign ?_
        refine k_nil ?_
        refine f_b ?_
        refine f_t ?_
        refine k_reg ?_
        refine l_addw ?_
        refine l_move ?_
        refine k_nil ?_
        exact k_next [(1010, 1010), (104851, 104851)] hB h
      refine k_exit ?_
      refine f_te ?_
      exact k_brk [(1010, 1010), (104851, 104851)] hB h
    refine f_be ?_
    refine f_t ?_
    refine k_seq ?_
    refine k_reg ?_
    refine l_move ?_
    refine l_move ?_
    refine l_subs h (fun v23 _ h => ?_)
    refine l_callX [(4000101, 1010), (4000102, 104851)] [1010, 104851] h (fun _ => strings_Builder_WriteString_s4_ok) (fun v24 _ h => ?_)
    refine k_nil ?_
    refine f_t ?_
    refine k_seq ?_
    refine k_reg ?_
    refine l_callX [(6000101, 1010), (6000102, 104851)] [1010, 104851] h (fun _ => strings_Builder_String_s6_ok) (fun v25 _ h => ?_)
    refine l_assign ?_
    refine k_nil ?_
    refine f_t ?_
    refine k_retc ?_
    apply k_ret [] hB h
  refine k_skip ?_
  refine f_t ?_
  refine k_seq ?_
  refine k_reg ?_
  refine l_alloc ?_
  refine k_nil ?_
  refine f_t ?_
  refine k_seq ?_
  refine k_reg ?_
  refine l_move ?_
  refine l_lens ?_
  refine l_move ?_
  refine l_move ?_
  refine l_lens ?_
  refine l_move ?_
  refine l_lens ?_
  refine l_subw ?_
  refine l_mulw ?_
  refine l_addw ?_
  refine l_npcell (b := 1010) (j := 0) 1010 0 ?_
  refine l_callX [(1000101, 1010), (1000151, 104851)] [1010] h (fun _ => strings_Builder_Grow_s1_ok) (fun v26 _ h => ?_)
  refine k_nil ?_
  refine f_t ?_
  refine k_seq ?_
  refine k_reg ?_
  refine l_assign ?_
  refine k_nil ?_
  refine f_t ?_
  refine k_seq ?_
  refine k_seq ?_
  refine k_reg ?_
  refine l_move ?_
  refine l_lens ?_
  refine l_cmp ?_
  refine k_nil ?_
  refine f_t ?_
  refine k_if h (fun _ h => ?_) (fun _ h => ?_)
  · refine k_seq ?_
    refine k_reg ?_
    refine l_move ?_
    refine l_move ?_
    refine k_nil ?_
    refine f_t ?_
    refine k_block ?_
    refine k_loop (fun y27 => ⟨[(0, S s), (1, S old), (2, S new), (10, .ptr 1010 0), (11, I y27.1), (52, I n), (53, I y27.2.1)], [(1010, .box 93 [.nptr false 1010 0, .sl 104851 0 y27.2.2.length]), (104851, .row 5 1 0 (F cU y27.2.2))], []⟩) (fun q33 => (.exit 0, ⟨[(0, S s), (10, .ptr 1010 0), (11, I q33.1)], [(1010, .box 93 [.nptr false 1010 0, .sl 104851 0 q33.2.length]), (104851, .row 5 1 0 (F cU q33.2))], []⟩)) [(1010, 1010), (104851, 104851)] hB h (fun y27 t h => ?_) (fun q33 h => ?_)
    · unfold strings_Replace_b3 at h
      refine k_seq ?_
      refine k_reg ?_
      refine l_cmp ?_
      refine k_nil ?_
      refine f_t ?_
      refine k_seq ?_
      refine k_if h (fun _ h => ?_) (fun _ h => ?_)
      · refine k_skip ?_
        refine f_t ?_
        refine k_seq ?_
        refine k_block ?_
        refine k_seq ?_
        refine k_reg ?_
        refine l_move ?_
        refine l_move ?_
        refine l_move ?_
        refine l_subs h (fun v28 _ h => ?_)
        refine l_move ?_
        refine l_call h (fun _ => strings_Index_ok) (fun v29 _ h => ?_)
        refine l_addw ?_
        refine l_assign ?_
        refine k_nil ?_
        refine f_t ?_
        refine k_seq ?_
        refine k_reg ?_
        refine l_move ?_
        refine l_move ?_
        refine l_move ?_
        refine l_subs h (fun v30 _ h => ?_)
        refine l_callX [(4000101, 1010), (4000102, 104851)] [1010, 104851] h (fun _ => strings_Builder_WriteString_s4_ok) (fun v31 _ h => ?_)
        refine k_nil ?_
        refine f_t ?_
        refine k_seq ?_
        refine k_reg ?_
        refine l_move ?_
        refine l_callX [(4000101, 1010), (4000102, 104851)] [1010, 104851] h (fun _ => strings_Builder_WriteString_s4_ok) (fun v32 _ h => ?_)
        refine k_nil ?_
        refine f_t ?_
        refine k_reg ?_
        refine l_move ?_
        refine l_move ?_
        refine l_lens ?_
        refine l_addw ?_
        refine l_assign ?_
        refine k_nil ?_
        refine f_b ?_
        refine f_t ?_
        refine k_reg ?_
        refine l_addw ?_
        refine l_move ?_
        refine k_nil ?_
        exact k_next [(1010, 1010), (104851, 104851)] hB h
      refine k_exit ?_
      refine f_te ?_
      exact k_brk [(1010, 1010), (104851, 104851)] hB h
    refine f_be ?_
    refine f_t ?_
    refine k_seq ?_
    refine k_reg ?_
    refine l_move ?_
    refine l_move ?_
    refine l_subs h (fun v34 _ h => ?_)
    refine l_callX [(4000101, 1010), (4000102, 104851)] [1010, 104851] h (fun _ => strings_Builder_WriteString_s4_ok) (fun v35 _ h => ?_)
    refine k_nil ?_
    refine f_t ?_
    refine k_seq ?_
    refine k_reg ?_
    refine l_callX [(6000101, 1010), (6000102, 104851)] [1010, 104851] h (fun _ => strings_Builder_String_s6_ok) (fun v36 _ h => ?_)
    refine l_assign ?_
    refine k_nil ?_
    refine f_t ?_
    refine k_retc ?_
    apply k_ret [] hB h
  refine k_seq ?_
  refine k_reg ?_
  refine l_move ?_
  refine l_callX [(4000101, 1010), (4000102, 104851)] [1010, 104851] h (fun _ => strings_Builder_WriteString_s4_ok) (fun v37 _ h => ?_)
  refine k_nil ?_
  refine f_t ?_
  refine k_seq ?_
  refine k_reg ?_
  refine l_move ?_
  refine l_subw ?_
  refine l_move ?_
  refine k_nil ?_
  refine f_t ?_
  refine k_block ?_
  refine k_loop (fun y38 => ⟨[(0, S s), (2, S new), (10, .ptr 1010 0), (11, I y38.1), (77, I (w64 (n - 1))), (78, I y38.2.1)], [(1010, .box 93 [.nptr false 1010 0, .sl 104851 0 y38.2.2.length]), (104851, .row 5 1 0 (F cU y38.2.2))], [104851]⟩) (fun q44 => (.exit 2, ⟨[(0, S s), (10, .ptr 1010 0), (11, I q44.1)], [(1010, .box 93 [.nptr false 1010 0, .sl 104851 0 q44.2.length]), (104851, .row 5 1 0 (F cU q44.2))], [104851]⟩)) [(1010, 1010), (104851, 104851)] hB h (fun y38 t h => ?_) (fun q44 h => ?_)
  · unfold strings_Replace_b4 at h
    refine k_seq ?_
    refine k_reg ?_
    refine l_cmp ?_
    refine k_nil ?_
    refine f_t ?_
    refine k_seq ?_
    refine k_if h (fun _ h => ?_) (fun _ h => ?_)
    · refine k_skip ?_
      refine f_t ?_
      refine k_seq ?_
      refine k_block ?_
      refine k_seq ?_
      refine k_reg ?_
      refine l_move ?_
      refine l_move ?_
      refine l_subs h (fun v39 _ h => ?_)
      refine l_call h (fun _ => utf8_DecodeRuneInString_ok) (fun v40 _ h => ?_)
      refine l_move ?_
      refine l_extract ?_
      refine l_extract ?_
      refine l_assign ?_
      refine l_assign ?_
      refine k_nil ?_
      refine f_t ?_
      refine k_seq ?_
      refine k_reg ?_
      refine l_move ?_
      refine l_move ?_
      refine l_addw ?_
      refine l_assign ?_
      refine k_nil ?_
      refine f_t ?_
      refine k_seq ?_
      refine k_reg ?_
      refine l_move ?_
      refine l_move ?_
      refine l_move ?_
      refine l_subs h (fun v41 _ h => ?_)
      refine l_callX [(4000101, 1010), (4000102, 104851)] [1010, 104851] h (fun _ => strings_Builder_WriteString_s4_ok) (fun v42 _ h => ?_)
      refine k_nil ?_
      refine f_t ?_
      refine k_seq ?_
      refine k_reg ?_
      refine l_move ?_
      refine l_callX [(4000101, 1010), (4000102, 104851)] [1010, 104851] h (fun _ => strings_Builder_WriteString_s4_ok) (fun v43 _ h => ?_)
      refine k_nil ?_
      refine f_t ?_
      refine k_reg ?_
      refine l_move ?_
      refine l_assign ?_
      refine k_nil ?_
      refine f_b ?_
      refine f_t ?_
      refine k_reg ?_
      refine l_addw ?_
      refine l_move ?_
      refine k_nil ?_
      exact k_next [(1010, 1010), (104851, 104851)] hB h
    refine k_exit ?_
    refine f_te ?_
    exact k_brk [(1010, 1010), (104851, 104851)] hB h
  refine f_be ?_
  refine f_t ?_
  refine k_seq ?_
  refine k_reg ?_
  refine l_move ?_
  refine l_move ?_
  refine l_subs h (fun v45 _ h => ?_)
  refine l_callX [(4000101, 1010), (4000102, 104851)] [1010, 104851] h (fun _ => strings_Builder_WriteString_s4_ok) (fun v46 _ h => ?_)
  refine k_nil ?_
  refine f_t ?_
  refine k_seq ?_
  refine k_reg ?_
  refine l_callX [(6000101, 1010), (6000102, 104851)] [1010, 104851] h (fun _ => strings_Builder_String_s6_ok) (fun v47 _ h => ?_)
  refine l_assign ?_
  refine k_nil ?_
  refine f_t ?_
  refine k_retc ?_
  apply k_ret [] hB h
theorem strings_ReplaceAll_ok {s : Str} {old : Str} {new : Str} {r : Str} (h : strings_ReplaceAll s old new = some r) : XSpec Tryz.prog 78 [S s, S old, S new] [] (S r) [] [] := by
  unfold strings_ReplaceAll at h
  refine X_of_run Tryz.hU Tryz.func78 (fun _ _ _ hB => ?_)
  refine k_seq ?_
  refine k_reg ?_
  refine l_assign ?_
  refine k_nil ?_
  refine f_t ?_
  refine k_seq ?_
  refine k_reg ?_
  refine l_move ?_
  refine l_move ?_
  refine l_move ?_
  refine l_call h (fun _ => strings_Replace_ok) (fun v1 _ h => ?_)
  refine l_assign ?_
  refine k_nil ?_
  refine f_t ?_
  refine k_retc ?_
  apply k_ret [] hB h
theorem chars_Lines_ok {s : Str} {r : Str} (h : chars_Lines s = some r) : XSpec Tryz.prog 51 [S s] [] (S r) [] [] := by
  unfold chars_Lines at h
  refine X_of_run Tryz.hU Tryz.func51 (fun _ _ _ hB => ?_)
  refine k_seq ?_
  refine k_reg ?_
  refine l_assign ?_
  refine k_nil ?_
  refine f_t ?_
  refine k_seq ?_
  refine k_reg ?_
  refine l_move ?_
  refine l_call h (fun _ => strings_ReplaceAll_ok) (fun v1 _ h => ?_)
  refine l_call h (fun _ => strings_ReplaceAll_ok) (fun v2 _ h => ?_)
  refine l_assign ?_
  refine k_nil ?_
  refine f_t ?_
  refine k_retc ?_
  apply k_ret [] hB h
theorem name_Blank_ok {c : UInt8} {r : Bool} (h : name_Blank c = some r) : XSpec Tryz.prog 79 [U c] [] (B r) [] [] := by
  unfold name_Blank at h
  refine X_of_run Tryz.hU Tryz.func79 (fun _ _ _ hB => ?_)
  refine k_seq ?_
  refine k_reg ?_
  refine l_assign ?_
  refine k_nil ?_
  refine f_t ?_
  refine k_seq ?_
  refine k_reg ?_
  refine l_move ?_
  refine l_cmp ?_
  refine l_move ?_
  refine l_split h (fun _ h => ?_) (fun _ h => ?_)
  · refine l_off ?_
    refine l_off ?_
    refine l_pick_true ?_
    refine l_move ?_
    refine l_off ?_
    refine l_off ?_
    refine l_pick_true ?_
    refine l_move ?_
    refine l_off ?_
    refine l_off ?_
    refine l_pick_true ?_
    refine l_assign ?_
    refine k_nil ?_
    refine f_t ?_
    refine k_retc ?_
    apply k_ret [] hB h
  refine l_on ?_
  refine l_move ?_
  refine l_on ?_
  refine l_cmp ?_
  refine l_pick_false ?_
  refine l_move ?_
  refine l_split h (fun _ h => ?_) (fun _ h => ?_)
  · refine l_off ?_
    refine l_off ?_
    refine l_pick_true ?_
    refine l_move ?_
    refine l_off ?_
    refine l_off ?_
    refine l_pick_true ?_
    refine l_assign ?_
    refine k_nil ?_
    refine f_t ?_
    refine k_retc ?_
    apply k_ret [] hB h
  refine l_on ?_
  refine l_move ?_
  refine l_on ?_
  refine l_cmp ?_
  refine l_pick_false ?_
  refine l_move ?_
  refine l_split h (fun _ h => ?_) (fun _ h => ?_)
  · refine l_off ?_
    refine l_off ?_
    refine l_pick_true ?_
    refine l_assign ?_
    refine k_nil ?_
    refine f_t ?_
    refine k_retc ?_
    apply k_ret [] hB h
  refine l_on ?_
  refine l_move ?_
  refine l_on ?_
  refine l_cmp ?_
  refine l_pick_false ?_
  refine l_assign ?_
  refine k_nil ?_
  refine f_t ?_
  refine k_retc ?_
  apply k_ret [] hB h
theorem stringslite_HasPrefix_ok {s : Str} {prefix_ : Str} {r : Bool} (h : stringslite_HasPrefix s prefix_ = some r) : XSpec Tryz.prog 121 [S s, S prefix_] [] (B r) [] [] := by
  unfold stringslite_HasPrefix at h
  refine X_of_run Tryz.hU Tryz.func121 (fun _ _ _ hB => ?_)
  refine k_seq ?_
  refine k_reg ?_
  refine l_assign ?_
  refine k_nil ?_
  refine f_t ?_
  refine k_seq ?_
  refine k_reg ?_
  refine l_move ?_
  refine l_lens ?_
  refine l_move ?_
  refine l_lens ?_
  refine l_cmp ?_
  refine l_move ?_
  refine l_split h (fun _ h => ?_) (fun _ h => ?_)
  · refine l_on ?_
    refine l_move ?_
    refine l_on ?_
    refine l_move ?_
    refine l_on ?_
    refine l_lens ?_
    refine l_on ?_
    refine l_subs h (fun v1 _ h => ?_)
    refine l_on ?_
    refine l_move ?_
    refine l_on ?_
    refine l_seq ?_
    refine l_pick_true ?_
    refine l_assign ?_
    refine k_nil ?_
    refine f_t ?_
    refine k_retc ?_
    apply k_ret [] hB h
  refine l_off ?_
  refine l_off ?_
  refine l_off ?_
  refine l_off ?_
  refine l_off ?_
  refine l_off ?_
  refine l_pick_false ?_
  refine l_assign ?_
  refine k_nil ?_
  refine f_t ?_
  refine k_retc ?_
  apply k_ret [] hB h
theorem strings_HasPrefix_ok {s : Str} {prefix_ : Str} {r : Bool} (h : strings_HasPrefix s prefix_ = some r) : XSpec Tryz.prog 81 [S s, S prefix_] [] (B r) [] [] := by
  unfold strings_HasPrefix at h
  refine X_of_run Tryz.hU Tryz.func81 (fun _ _ _ hB => ?_)
  refine k_seq ?_
  refine k_reg ?_
  refine l_assign ?_
  refine k_nil ?_
  refine f_t ?_
  refine k_seq ?_
  refine k_reg ?_
  refine l_move ?_
  refine l_move ?_
  refine l_call h (fun _ => stringslite_HasPrefix_ok) (fun v1 _ h => ?_)
  refine l_assign ?_
  refine k_nil ?_
  refine f_t ?_
  refine k_retc ?_
  apply k_ret [] hB h
theorem stringslite_CutPrefix_ok {s : Str} {prefix_ : Str} {r : Str × Bool} (h : stringslite_CutPrefix s prefix_ = some r) : XSpec Tryz.prog 166 [S s, S prefix_] [] (.tup [S r.1, B r.2]) [] [] := by
  unfold stringslite_CutPrefix at h
  refine X_of_run Tryz.hU Tryz.func166 (fun _ _ _ hB => ?_)
  refine k_seq ?_
  refine k_reg ?_
  refine l_assign ?_
  refine l_assign ?_
  refine k_nil ?_
  refine f_t ?_
  refine k_seq ?_
  refine k_seq ?_
  refine k_reg ?_
  refine l_move ?_
  refine l_move ?_
  refine l_call h (fun _ => stringslite_HasPrefix_ok) (fun v1 _ h => ?_)
  refine l_un ?_
  refine k_nil ?_
  refine f_t ?_
  refine k_if h (fun _ h => ?_) (fun _ h => ?_)
  · refine k_seq ?_
    refine k_reg ?_
    refine l_move ?_
    refine l_assign ?_
    refine l_assign ?_
    refine k_nil ?_
    refine f_t ?_
    refine k_retc ?_
    refine f_tr ?_
    apply k_ret [] hB h
  refine k_skip ?_
  refine f_t ?_
  refine k_seq ?_
  refine k_reg ?_
  refine l_move ?_
  refine l_move ?_
  refine l_lens ?_
  refine l_subs h (fun v2 _ h => ?_)
  refine l_assign ?_
  refine l_assign ?_
  refine k_nil ?_
  refine f_t ?_
  refine k_retc ?_
  apply k_ret [] hB h
theorem strings_CutPrefix_ok {s : Str} {prefix_ : Str} {r : Str × Bool} (h : strings_CutPrefix s prefix_ = some r) : XSpec Tryz.prog 124 [S s, S prefix_] [] (.tup [S r.1, B r.2]) [] [] := by
  unfold strings_CutPrefix at h
  refine X_of_run Tryz.hU Tryz.func124 (fun _ _ _ hB => ?_)
  refine k_seq ?_
  refine k_reg ?_
  refine l_assign ?_
  refine l_assign ?_
  refine k_nil ?_
  refine f_t ?_
  refine k_seq ?_
  refine k_reg ?_
  refine l_move ?_
  refine l_move ?_
  refine l_call h (fun _ => stringslite_CutPrefix_ok) (fun v1 _ h => ?_)
  refine l_extract ?_
  refine l_extract ?_
  refine l_assign ?_
  refine l_assign ?_
  refine k_nil ?_
  refine f_t ?_
  refine k_retc ?_
  apply k_ret [] hB h
theorem name_in_ok {r_ : Int} {l : (List TSpan)} {r : Bool} (h : name_in r_ l = some r) : XSpec Tryz.prog 203 [.pl (.int .i32 r_), .vs l.length (F c_TSpan l)] [] (B r) [] [] := by
  unfold name_in at h
  refine X_of_run Tryz.hU Tryz.func203 (fun _ _ _ hB => ?_)
  refine k_seq ?_
  refine k_reg ?_
  refine l_assign ?_
  refine k_nil ?_
  refine f_t ?_
  refine k_seq ?_
  refine k_seq ?_
  refine k_reg ?_
  refine l_move ?_
  refine l_len ?_
  refine l_move ?_
  refine k_nil ?_
  refine f_t ?_
  refine k_block ?_
  refine k_loop (fun y1 => ⟨[(0, .pl (.int .i32 r_)), (7, .vs l.length (F c_TSpan l)), (8, I (l.length : Int)), (9, I y1)], [], []⟩) (Sum.elim (fun q3 => (.ret, ⟨[(4, B true)], [], []⟩)) (fun q4 => (.exit 0, ⟨[], [], []⟩))) [] hB h (fun y1 t h => ?_) (fun q h => ?_)
  · unfold name_in_b1 at h
    refine k_seq ?_
    refine k_reg ?_
    refine l_cmp ?_
    refine k_nil ?_
    refine f_t ?_
    refine k_seq ?_
    refine k_if h (fun _ h => ?_) (fun _ h => ?_)
    · refine k_skip ?_
      refine f_t ?_
      refine k_seq ?_
      refine k_block ?_
      refine k_seq ?_
      refine k_reg ?_
      refine l_at h (fun v2 _ h => ?_)
      refine l_load_agg ?_
      refine l_alloc ?_
      refine l_store_box ?_
      refine k_nil ?_
      refine f_t ?_
      refine k_seq ?_
      refine k_reg ?_
      refine l_move ?_
      refine l_fieldAddr ?_
      refine l_load ?_
      refine l_cmp ?_
      refine l_move ?_
      refine l_split h (fun _ h => ?_) (fun _ h => ?_)
      · refine l_on ?_
        refine l_move ?_
        refine l_on ?_
        refine l_fieldAddr ?_
        refine l_on ?_
        refine l_load ?_
        refine l_on ?_
        refine l_cmp ?_
        refine l_pick_true ?_
        refine k_nil ?_
        refine f_t ?_
        refine k_if h (fun _ h => ?_) (fun _ h => ?_)
        · refine k_seq ?_
          refine k_reg ?_
          refine l_assign ?_
          refine k_nil ?_
          refine f_t ?_
          refine k_retc ?_
          refine f_br ?_
          refine f_tr ?_
          exact k_brk [] hB h
        refine k_skip ?_
        refine f_b ?_
        refine f_t ?_
        refine k_reg ?_
        refine l_addw ?_
        refine l_move ?_
        refine k_nil ?_
        exact k_next [] hB h
      refine l_off ?_
      refine l_off ?_
      refine l_off ?_
      refine l_off ?_
      refine l_pick_false ?_
      refine k_nil ?_
      refine f_t ?_
      refine k_f ?_
      refine k_skip ?_
      refine f_b ?_
      refine f_t ?_
      refine k_reg ?_
      refine l_addw ?_
      refine l_move ?_
      refine k_nil ?_
      exact k_next [] hB h
    refine k_exit ?_
    refine f_te ?_
    exact k_brk [] hB h
  rcases q with q3 | q4
  · dsimp only [Sum.elim] at h ⊢
    refine f_br ?_
    refine f_tr ?_
    apply k_ret [] hB h
  dsimp only [Sum.elim] at h ⊢
  refine f_be ?_
  refine f_t ?_
  refine k_seq ?_
  refine k_reg ?_
  refine l_assign ?_
  refine k_nil ?_
  refine f_t ?_
  refine k_retc ?_
  apply k_ret [] hB h
theorem name_Begins_ok {r_ : Int} {r : Bool} (h : name_Begins r_ = some r) : XSpec Tryz.prog 202 [.pl (.int .i32 r_)] [] (B r) [] [] := by
  unfold name_Begins at h
  refine X_of_run Tryz.hU Tryz.func202 (fun _ _ _ hB => ?_)
  refine k_seq ?_
  refine k_reg ?_
  refine l_assign ?_
  refine k_nil ?_
  refine f_t ?_
  refine k_seq ?_
  refine k_reg ?_
  refine l_move ?_
  refine l_cmp ?_
  refine l_move ?_
  refine l_split h (fun _ h => ?_) (fun _ h => ?_)
  · refine l_off ?_
    refine l_off ?_
    refine l_off ?_
    refine l_off ?_
    refine l_off ?_
    refine l_off ?_
    refine l_off ?_
    refine l_off ?_
    refine l_off ?_
    refine l_off ?_
    refine l_off ?_
    refine l_off ?_
    refine l_off ?_
    refine l_off ?_
    refine l_off ?_
    refine l_off ?_
    refine l_off ?_
    refine l_pick_true ?_
    refine l_assign ?_
    refine k_nil ?_
    refine f_t ?_
    refine k_retc ?_
    apply k_ret [] hB h
  refine l_on ?_
  refine l_move ?_
  refine l_on ?_
  refine l_build ?_
  refine l_on ?_
  refine l_build ?_
  refine l_on ?_
  refine l_build ?_
  refine l_on ?_
  refine l_build ?_
  refine l_on ?_
  refine l_build ?_
  refine l_on ?_
  refine l_build ?_
  refine l_on ?_
  refine l_build ?_
  refine l_on ?_
  refine l_build ?_
  refine l_on ?_
  refine l_build ?_
  refine l_on ?_
  refine l_build ?_
  refine l_on ?_
  refine l_build ?_
  refine l_on ?_
  refine l_build ?_
  refine l_on ?_
  refine l_build ?_
  refine l_on ?_
  refine l_build ?_
  refine l_on ?_
  refine l_lit (e := c_TSpan) [(TSpan.mk 65 90), (TSpan.mk 97 122), (TSpan.mk 192 214), (TSpan.mk 216 246), (TSpan.mk 248 767), (TSpan.mk 880 893), (TSpan.mk 895 8191), (TSpan.mk 8204 8205), (TSpan.mk 8304 8591), (TSpan.mk 11264 12271), (TSpan.mk 12289 55295), (TSpan.mk 63744 64975), (TSpan.mk 65008 65533), (TSpan.mk 65536 983039)] ?_
  refine l_on ?_
  refine l_callB h (fun _ => name_in_ok) (fun v1 _ h => ?_)
  refine l_pick_false ?_
  refine l_assign ?_
  refine k_nil ?_
  refine f_t ?_
  refine k_retc ?_
  apply k_ret [] hB h
theorem name_Stands_ok {r_ : Int} {r : Bool} (h : name_Stands r_ = some r) : XSpec Tryz.prog 170 [.pl (.int .i32 r_)] [] (B r) [] [] := by
  unfold name_Stands at h
  refine X_of_run Tryz.hU Tryz.func170 (fun _ _ _ hB => ?_)
  refine k_seq ?_
  refine k_reg ?_
  refine l_assign ?_
  refine k_nil ?_
  refine f_t ?_
  refine k_seq ?_
  refine k_reg ?_
  refine l_move ?_
  refine l_call h (fun _ => name_Begins_ok) (fun v1 _ h => ?_)
  refine l_move ?_
  refine l_split h (fun _ h => ?_) (fun _ h => ?_)
  · refine l_off ?_
    refine l_off ?_
    refine l_pick_true ?_
    refine l_move ?_
    refine l_off ?_
    refine l_off ?_
    refine l_pick_true ?_
    refine l_move ?_
    refine l_off ?_
    refine l_off ?_
    refine l_pick_true ?_
    refine l_move ?_
    refine l_off ?_
    refine l_off ?_
    refine l_off ?_
    refine l_off ?_
    refine l_off ?_
    refine l_off ?_
    refine l_pick_true ?_
    refine l_assign ?_
    refine k_nil ?_
    refine f_t ?_
    refine k_retc ?_
    apply k_ret [] hB h
  refine l_on ?_
  refine l_move ?_
  refine l_on ?_
  refine l_cmp ?_
  refine l_pick_false ?_
  refine l_move ?_
  refine l_split h (fun _ h => ?_) (fun _ h => ?_)
  · refine l_off ?_
    refine l_off ?_
    refine l_pick_true ?_
    refine l_move ?_
    refine l_off ?_
    refine l_off ?_
    refine l_pick_true ?_
    refine l_move ?_
    refine l_off ?_
    refine l_off ?_
    refine l_off ?_
    refine l_off ?_
    refine l_off ?_
    refine l_off ?_
    refine l_pick_true ?_
    refine l_assign ?_
    refine k_nil ?_
    refine f_t ?_
    refine k_retc ?_
    apply k_ret [] hB h
  refine l_on ?_
  refine l_move ?_
  refine l_on ?_
  refine l_cmp ?_
  refine l_pick_false ?_
  refine l_move ?_
  refine l_split h (fun _ h => ?_) (fun _ h => ?_)
  · refine l_off ?_
    refine l_off ?_
    refine l_pick_true ?_
    refine l_move ?_
    refine l_off ?_
    refine l_off ?_
    refine l_off ?_
    refine l_off ?_
    refine l_off ?_
    refine l_off ?_
    refine l_pick_true ?_
    refine l_assign ?_
    refine k_nil ?_
    refine f_t ?_
    refine k_retc ?_
    apply k_ret [] hB h
  refine l_on ?_
  refine l_move ?_
  refine l_on ?_
  refine l_cmp ?_
  refine l_pick_false ?_
  refine l_move ?_
  refine l_split h (fun _ h => ?_) (fun _ h => ?_)
  · refine l_off ?_
    refine l_off ?_
    refine l_off ?_
    refine l_off ?_
    refine l_off ?_
    refine l_off ?_
    refine l_pick_true ?_
    refine l_assign ?_
    refine k_nil ?_
    refine f_t ?_
    refine k_retc ?_
    apply k_ret [] hB h
  refine l_on ?_
  refine l_move ?_
  refine l_on ?_
  refine l_build ?_
  refine l_on ?_
  refine l_build ?_
  refine l_on ?_
  refine l_build ?_
  refine l_on ?_
  refine l_lit (e := c_TSpan) [(TSpan.mk 48 57), (TSpan.mk 768 879), (TSpan.mk 8255 8256)] ?_
  refine l_on ?_
  refine l_callB h (fun _ => name_in_ok) (fun v2 _ h => ?_)
  refine l_pick_false ?_
  refine l_assign ?_
  refine k_nil ?_
  refine f_t ?_
  refine k_retc ?_
  apply k_ret [] hB h
theorem stringslite_Cut_ok {s : Str} {sep : Str} {r : Str × Str × Bool} (h : stringslite_Cut s sep = some r) : XSpec Tryz.prog 167 [S s, S sep] [] (.tup [S r.1, S r.2.1, B r.2.2]) [] [] := by
  unfold stringslite_Cut at h
  refine X_of_run Tryz.hU Tryz.func167 (fun _ _ _ hB => ?_)
  refine k_seq ?_
  refine k_reg ?_
  refine l_assign ?_
  refine l_assign ?_
  refine l_assign ?_
  refine k_nil ?_
  refine f_t ?_
  refine k_seq ?_
  refine k_seq ?_
  refine k_reg ?_
  refine l_move ?_
  refine l_move ?_
  refine l_call h (fun _ => stringslite_Index_ok) (fun v1 _ h => ?_)
  refine l_assign ?_
  refine k_nil ?_
  refine f_t ?_
  refine k_seq ?_
  refine k_reg ?_
  refine l_move ?_
  refine l_cmp ?_
  refine k_nil ?_
  refine f_t ?_
  refine k_if h (fun _ h => ?_) (fun _ h => ?_)
  · refine k_seq ?_
    refine k_mix [] (.q 0 (.q 1 (.q 2 (.q 3 (.q 4 (.q 5 (.q 6 (.q 7 (.q 8 (.q 9 (.q 10 (.q 11 (.done))))))))))))) hm ?_
    refine gq ?_
    refine n_move ?_
    refine gq ?_
    refine n_move ?_
    refine gq ?_
    refine n_subs h (fun v2 _ h => ?_)
    refine gq ?_
    refine n_move ?_
    refine gq ?_
    refine n_move ?_
    refine gq ?_
    refine n_move ?_
    refine gq ?_
    refine n_lens ?_
    refine gq ?_
    refine n_addw ?_
    refine gq ?_
    refine n_subs h (fun v3 _ h => ?_)
    refine gq ?_
    refine n_assign ?_
    refine gq ?_
    refine n_assign ?_
    refine gq ?_
    refine n_assign ?_
    refine m_nil ?_
    refine f_t ?_
    refine k_retc ?_
    refine f_tr ?_
    apply k_ret [] hB h
  refine k_skip ?_
  refine f_t ?_
  refine k_seq ?_
  refine k_reg ?_
  refine l_move ?_
  refine l_assign ?_
  refine l_assign ?_
  refine l_assign ?_
  refine k_nil ?_
  refine f_t ?_
  refine k_retc ?_
  apply k_ret [] hB h
theorem strings_Cut_ok {s : Str} {sep : Str} {r : Str × Str × Bool} (h : strings_Cut s sep = some r) : XSpec Tryz.prog 125 [S s, S sep] [] (.tup [S r.1, S r.2.1, B r.2.2]) [] [] := by
  unfold strings_Cut at h
  refine X_of_run Tryz.hU Tryz.func125 (fun _ _ _ hB => ?_)
  refine k_seq ?_
  refine k_reg ?_
  refine l_assign ?_
  refine l_assign ?_
  refine l_assign ?_
  refine k_nil ?_
  refine f_t ?_
  refine k_seq ?_
  refine k_reg ?_
  refine l_move ?_
  refine l_move ?_
  refine l_call h (fun _ => stringslite_Cut_ok) (fun v1 _ h => ?_)
  refine l_extract ?_
  refine l_extract ?_
  refine l_extract ?_
  refine l_assign ?_
  refine l_assign ?_
  refine l_assign ?_
  refine k_nil ?_
  refine f_t ?_
  refine k_retc ?_
  apply k_ret [] hB h
theorem name_Is_ok {s : Str} {r : Bool} (h : name_Is s = some r) : XSpec Tryz.prog 171 [S s] [] (B r) [] [] := by
  unfold name_Is at h
  refine X_of_run Tryz.hU Tryz.func171 (fun _ _ _ hB => ?_)
  refine k_seq ?_
  refine k_reg ?_
  refine l_assign ?_
  refine k_nil ?_
  refine f_t ?_
  refine k_seq ?_
  refine k_reg ?_
  refine l_move ?_
  refine l_strb ?_
  refine l_frz 1009 ?_
  refine l_callX [(1, 101001)] [] h (fun _ => utf_Chars_ok) (fun v1 _ h => ?_)
  refine l_move ?_
  refine l_extract ?_
  refine l_extract ?_
  refine l_assign ?_
  refine l_assign ?_
  refine k_nil ?_
  refine f_t ?_
  refine k_seq ?_
  refine k_seq ?_
  refine k_reg ?_
  refine l_move ?_
  refine l_un ?_
  refine l_move ?_
  refine l_split h (fun _ h => ?_) (fun _ h => ?_)
  · refine l_off ?_
    refine l_off ?_
    refine l_off ?_
    refine l_pick_true ?_
    refine l_move ?_
    refine l_off ?_
    refine l_off ?_
    refine l_off ?_
    refine l_off ?_
    refine l_off ?_
    refine l_pick_true ?_
    refine k_nil ?_
    refine f_t ?_
    refine k_t ?_
    refine k_seq ?_
    refine k_reg ?_
    refine l_assign ?_
    refine k_nil ?_
    refine f_t ?_
    refine k_retc ?_
    refine f_tr ?_
    apply k_ret [] hB h
  refine l_on ?_
  refine l_move ?_
  refine l_on ?_
  refine l_len ?_
  refine l_on ?_
  refine l_cmp ?_
  refine l_pick_false ?_
  refine l_move ?_
  refine l_split h (fun _ h => ?_) (fun _ h => ?_)
  · refine l_off ?_
    refine l_off ?_
    refine l_off ?_
    refine l_off ?_
    refine l_off ?_
    refine l_pick_true ?_
    refine k_nil ?_
    refine f_t ?_
    refine k_t ?_
    refine k_seq ?_
    refine k_reg ?_
    refine l_assign ?_
    refine k_nil ?_
    refine f_t ?_
    refine k_retc ?_
    refine f_tr ?_
    apply k_ret [] hB h
  refine l_on ?_
  refine l_move ?_
  refine l_on ?_
  refine l_ato h (fun v2 ev2 h => ?_)
  refine l_on ?_
  refine l_ldr0 ev2 ?_
  refine l_on ?_
  refine l_call h (fun _ => name_Begins_ok) (fun v3 _ h => ?_)
  refine l_on ?_
  refine l_un ?_
  refine l_pick_false ?_
  refine k_nil ?_
  refine f_t ?_
  refine k_if h (fun _ h => ?_) (fun _ h => ?_)
  · refine k_seq ?_
    refine k_reg ?_
    refine l_assign ?_
    refine k_nil ?_
    refine f_t ?_
    refine k_retc ?_
    refine f_tr ?_
    apply k_ret [] hB h
  refine k_skip ?_
  refine f_t ?_
  refine k_seq ?_
  refine k_seq ?_
  refine k_reg ?_
  refine l_move ?_
  refine l_len ?_
  refine l_move ?_
  refine k_nil ?_
  refine f_t ?_
  refine k_block ?_
  refine k_loop (fun y4 => ⟨[(27, .sl 101001 0 v1.1.length), (28, I (v1.1.length : Int)), (29, I y4)], [(101001, .row 21 1 0 (F cR v1.1))], []⟩) (Sum.elim (fun q7 => (.ret, ⟨[(2, B false)], [], []⟩)) (fun q8 => (.exit 0, ⟨[], [], []⟩))) [(101001, 101001)] hB h (fun y4 t h => ?_) (fun q h => ?_)
  · unfold name_Is_b1 at h
    refine k_seq ?_
    refine k_reg ?_
    refine l_cmp ?_
    refine k_nil ?_
    refine f_t ?_
    refine k_seq ?_
    refine k_if h (fun _ h => ?_) (fun _ h => ?_)
    · refine k_skip ?_
      refine f_t ?_
      refine k_seq ?_
      refine k_block ?_
      refine k_seq ?_
      refine k_reg ?_
      refine l_ato h (fun v5 ev5 h => ?_)
      refine l_ldr0 ev5 ?_
      refine l_assign ?_
      refine k_nil ?_
      refine f_t ?_
      refine k_seq ?_
      refine k_reg ?_
      refine l_move ?_
      refine l_call h (fun _ => name_Stands_ok) (fun v6 _ h => ?_)
      refine l_un ?_
      refine k_nil ?_
      refine f_t ?_
      refine k_if h (fun _ h => ?_) (fun _ h => ?_)
      · refine k_seq ?_
        refine k_reg ?_
        refine l_assign ?_
        refine k_nil ?_
        refine f_t ?_
        refine k_retc ?_
        refine f_br ?_
        refine f_tr ?_
        exact k_brk [] hB h
      refine k_skip ?_
      refine f_b ?_
      refine f_t ?_
      refine k_reg ?_
      refine l_addw ?_
      refine l_move ?_
      refine k_nil ?_
      exact k_next [(101001, 101001)] hB h
    refine k_exit ?_
    refine f_te ?_
    exact k_brk [] hB h
  rcases q with q7 | q8
  · dsimp only [Sum.elim] at h ⊢
    refine f_br ?_
    refine f_tr ?_
    apply k_ret [] hB h
  dsimp only [Sum.elim] at h ⊢
  refine f_be ?_
  refine f_t ?_
  refine k_seq ?_
  refine k_reg ?_
  refine l_assign ?_
  refine k_nil ?_
  refine f_t ?_
  refine k_retc ?_
  apply k_ret [] hB h
theorem name_Split_ok {s : Str} {r : Str × Str × Bool} (h : name_Split s = some r) : XSpec Tryz.prog 129 [S s] [] (.tup [S r.1, S r.2.1, B r.2.2]) [] [] := by
  unfold name_Split at h
  refine X_of_run Tryz.hU Tryz.func129 (fun _ _ _ hB => ?_)
  refine k_seq ?_
  refine k_reg ?_
  refine l_assign ?_
  refine l_assign ?_
  refine l_assign ?_
  refine k_nil ?_
  refine f_t ?_
  refine k_seq ?_
  refine k_reg ?_
  refine l_move ?_
  refine l_call h (fun _ => strings_Cut_ok) (fun v1 _ h => ?_)
  refine l_move ?_
  refine l_extract ?_
  refine l_extract ?_
  refine l_extract ?_
  refine l_assign ?_
  refine l_assign ?_
  refine l_assign ?_
  refine k_nil ?_
  refine f_t ?_
  refine k_seq ?_
  refine k_seq ?_
  refine k_reg ?_
  refine l_move ?_
  refine l_un ?_
  refine k_nil ?_
  refine f_t ?_
  refine k_if h (fun _ h => ?_) (fun _ h => ?_)
  · refine k_reg ?_
    refine l_move ?_
    refine l_assign ?_
    refine l_assign ?_
    refine k_nil ?_
    refine f_t ?_
    refine k_seq ?_
    refine k_seq ?_
    refine k_reg ?_
    refine l_move ?_
    refine l_move ?_
    refine l_split h (fun _ h => ?_) (fun _ h => ?_)
    · refine l_on ?_
      refine l_move ?_
      refine l_on ?_
      refine l_call h (fun _ => name_Is_ok) (fun v2 _ h => ?_)
      refine l_on ?_
      refine l_un ?_
      refine l_pick_true ?_
      refine l_move ?_
      refine l_split h (fun _ h => ?_) (fun _ h => ?_)
      · refine l_off ?_
        refine l_off ?_
        refine l_off ?_
        refine l_pick_true ?_
        refine k_nil ?_
        refine f_t ?_
        refine k_t ?_
        refine k_seq ?_
        refine k_reg ?_
        refine l_assign ?_
        refine l_assign ?_
        refine l_assign ?_
        refine k_nil ?_
        refine f_t ?_
        refine k_retc ?_
        refine f_tr ?_
        apply k_ret [] hB h
      refine l_on ?_
      refine l_move ?_
      refine l_on ?_
      refine l_call h (fun _ => name_Is_ok) (fun v3 _ h => ?_)
      refine l_on ?_
      refine l_un ?_
      refine l_pick_false ?_
      refine k_nil ?_
      refine f_t ?_
      refine k_if h (fun _ h => ?_) (fun _ h => ?_)
      · refine k_seq ?_
        refine k_reg ?_
        refine l_assign ?_
        refine l_assign ?_
        refine l_assign ?_
        refine k_nil ?_
        refine f_t ?_
        refine k_retc ?_
        refine f_tr ?_
        apply k_ret [] hB h
      refine k_skip ?_
      refine f_t ?_
      refine k_seq ?_
      refine k_reg ?_
      refine l_move ?_
      refine l_move ?_
      refine l_assign ?_
      refine l_assign ?_
      refine l_assign ?_
      refine k_nil ?_
      refine f_t ?_
      refine k_retc ?_
      apply k_ret [] hB h
    refine l_off ?_
    refine l_off ?_
    refine l_off ?_
    refine l_pick_false ?_
    refine l_move ?_
    refine l_on ?_
    refine l_move ?_
    refine l_on ?_
    refine l_call h (fun _ => name_Is_ok) (fun v4 _ h => ?_)
    refine l_on ?_
    refine l_un ?_
    refine l_pick_false ?_
    refine k_nil ?_
    refine f_t ?_
    refine k_if h (fun _ h => ?_) (fun _ h => ?_)
    · refine k_seq ?_
      refine k_reg ?_
      refine l_assign ?_
      refine l_assign ?_
      refine l_assign ?_
      refine k_nil ?_
      refine f_t ?_
      refine k_retc ?_
      refine f_tr ?_
      apply k_ret [] hB h
    refine k_skip ?_
    refine f_t ?_
    refine k_seq ?_
    refine k_reg ?_
    refine l_move ?_
    refine l_move ?_
    refine l_assign ?_
    refine l_assign ?_
    refine l_assign ?_
    refine k_nil ?_
    refine f_t ?_
    refine k_retc ?_
    apply k_ret [] hB h
  refine k_skip ?_
  refine f_t ?_
  refine k_seq ?_
  refine k_seq ?_
  refine k_reg ?_
  refine l_move ?_
  refine l_move ?_
  refine l_split h (fun _ h => ?_) (fun _ h => ?_)
  · refine l_on ?_
    refine l_move ?_
    refine l_on ?_
    refine l_call h (fun _ => name_Is_ok) (fun v5 _ h => ?_)
    refine l_on ?_
    refine l_un ?_
    refine l_pick_true ?_
    refine l_move ?_
    refine l_split h (fun _ h => ?_) (fun _ h => ?_)
    · refine l_off ?_
      refine l_off ?_
      refine l_off ?_
      refine l_pick_true ?_
      refine k_nil ?_
      refine f_t ?_
      refine k_t ?_
      refine k_seq ?_
      refine k_reg ?_
      refine l_assign ?_
      refine l_assign ?_
      refine l_assign ?_
      refine k_nil ?_
      refine f_t ?_
      refine k_retc ?_
      refine f_tr ?_
      apply k_ret [] hB h
    refine l_on ?_
    refine l_move ?_
    refine l_on ?_
    refine l_call h (fun _ => name_Is_ok) (fun v6 _ h => ?_)
    refine l_on ?_
    refine l_un ?_
    refine l_pick_false ?_
    refine k_nil ?_
    refine f_t ?_
    refine k_if h (fun _ h => ?_) (fun _ h => ?_)
    · refine k_seq ?_
      refine k_reg ?_
      refine l_assign ?_
      refine l_assign ?_
      refine l_assign ?_
      refine k_nil ?_
      refine f_t ?_
      refine k_retc ?_
      refine f_tr ?_
      apply k_ret [] hB h
    refine k_skip ?_
    refine f_t ?_
    refine k_seq ?_
    refine k_reg ?_
    refine l_move ?_
    refine l_move ?_
    refine l_assign ?_
    refine l_assign ?_
    refine l_assign ?_
    refine k_nil ?_
    refine f_t ?_
    refine k_retc ?_
    apply k_ret [] hB h
  refine l_off ?_
  refine l_off ?_
  refine l_off ?_
  refine l_pick_false ?_
  refine l_move ?_
  refine l_on ?_
  refine l_move ?_
  refine l_on ?_
  refine l_call h (fun _ => name_Is_ok) (fun v7 _ h => ?_)
  refine l_on ?_
  refine l_un ?_
  refine l_pick_false ?_
  refine k_nil ?_
  refine f_t ?_
  refine k_if h (fun _ h => ?_) (fun _ h => ?_)
  · refine k_seq ?_
    refine k_reg ?_
    refine l_assign ?_
    refine l_assign ?_
    refine l_assign ?_
    refine k_nil ?_
    refine f_t ?_
    refine k_retc ?_
    refine f_tr ?_
    apply k_ret [] hB h
  refine k_skip ?_
  refine f_t ?_
  refine k_seq ?_
  refine k_reg ?_
  refine l_move ?_
  refine l_move ?_
  refine l_assign ?_
  refine l_assign ?_
  refine l_assign ?_
  refine k_nil ?_
  refine f_t ?_
  refine k_retc ?_
  apply k_ret [] hB h
theorem doc_bare_ok {x : TNode} {r : Bool} (h : doc_bare x = some r) : XSpec Tryz.prog 135 [.agg (c_TNode x)] [] (B r) [] [] := by
  unfold doc_bare at h
  refine X_of_run Tryz.hU Tryz.func135 (fun _ _ _ hB => ?_)
  refine k_seq ?_
  refine k_reg ?_
  refine l_box ?_
  refine l_assign ?_
  refine k_nil ?_
  refine f_t ?_
  refine k_seq ?_
  refine k_reg ?_
  refine l_fieldAddr ?_
  refine l_load ?_
  refine l_seq ?_
  refine l_move ?_
  refine l_split h (fun _ h => ?_) (fun _ h => ?_)
  · refine l_on ?_
    refine l_fieldAddr ?_
    refine l_on ?_
    refine l_load ?_
    refine l_on ?_
    refine l_seq ?_
    refine l_pick_true ?_
    refine l_move ?_
    refine l_split h (fun _ h => ?_) (fun _ h => ?_)
    · refine l_on ?_
      refine l_fieldAddr ?_
      refine l_on ?_
      refine l_load ?_
      refine l_on ?_
      refine l_len ?_
      refine l_on ?_
      refine l_cmp ?_
      refine l_pick_true ?_
      refine l_move ?_
      refine l_split h (fun _ h => ?_) (fun _ h => ?_)
      · refine l_on ?_
        refine l_fieldAddr ?_
        refine l_on ?_
        refine l_load ?_
        refine l_on ?_
        refine l_len ?_
        refine l_on ?_
        refine l_cmp ?_
        refine l_pick_true ?_
        refine l_assign ?_
        refine k_nil ?_
        refine f_t ?_
        refine k_retc ?_
        apply k_ret [] hB h
      refine l_off ?_
      refine l_off ?_
      refine l_off ?_
      refine l_off ?_
      refine l_pick_false ?_
      refine l_assign ?_
      refine k_nil ?_
      refine f_t ?_
      refine k_retc ?_
      apply k_ret [] hB h
    refine l_off ?_
    refine l_off ?_
    refine l_off ?_
    refine l_off ?_
    refine l_pick_false ?_
    refine l_move ?_
    refine l_off ?_
    refine l_off ?_
    refine l_off ?_
    refine l_off ?_
    refine l_pick_false ?_
    refine l_assign ?_
    refine k_nil ?_
    refine f_t ?_
    refine k_retc ?_
    apply k_ret [] hB h
  refine l_off ?_
  refine l_off ?_
  refine l_off ?_
  refine l_pick_false ?_
  refine l_move ?_
  refine l_off ?_
  refine l_off ?_
  refine l_off ?_
  refine l_off ?_
  refine l_pick_false ?_
  refine l_move ?_
  refine l_off ?_
  refine l_off ?_
  refine l_off ?_
  refine l_off ?_
  refine l_pick_false ?_
  refine l_assign ?_
  refine k_nil ?_
  refine f_t ?_
  refine k_retc ?_
  apply k_ret [] hB h
theorem doc_stands_ok {l : (List TNode)} {n : Int} {r : Bool} (h : doc_stands l n = some r) : XSpec Tryz.prog 136 [.vs l.length (F c_TNode l), I n] [] (B r) [] [] := by
  unfold doc_stands at h
  refine X_of_run Tryz.hU Tryz.func136 (fun _ _ _ hB => ?_)
  refine k_seq ?_
  refine k_reg ?_
  refine l_assign ?_
  refine k_nil ?_
  refine f_t ?_
  refine k_seq ?_
  refine k_seq ?_
  refine k_reg ?_
  refine l_move ?_
  refine l_subw ?_
  refine l_assign ?_
  refine k_nil ?_
  refine f_t ?_
  refine k_block ?_
  refine k_loop (fun y1 => ⟨[(0, .vs l.length (F c_TNode l)), (1, I n), (5, I y1)], [], []⟩) (Sum.elim (fun q6 => (.ret, ⟨[(4, B q6)], [], []⟩)) (fun q7 => (.exit 0, ⟨[], [], []⟩))) [] hB h (fun y1 t h => ?_) (fun q h => ?_)
  · unfold doc_stands_b1 at h
    refine k_seq ?_
    refine k_seq ?_
    refine k_reg ?_
    refine l_move ?_
    refine l_cmp ?_
    refine k_nil ?_
    refine f_t ?_
    refine k_if h (fun _ h => ?_) (fun _ h => ?_)
    · refine k_skip ?_
      refine f_t ?_
      refine k_seq ?_
      refine k_block ?_
      refine k_seq ?_
      refine k_reg ?_
      refine l_move ?_
      refine l_move ?_
      refine l_move ?_
      refine l_at h (fun v2 _ h => ?_)
      refine l_fieldAddr ?_
      refine l_load ?_
      refine l_cmp ?_
      refine k_nil ?_
      refine f_t ?_
      refine k_if h (fun _ h => ?_) (fun _ h => ?_)
      · refine k_seq ?_
        refine k_reg ?_
        refine l_move ?_
        refine l_move ?_
        refine l_at h (fun v3 _ h => ?_)
        refine l_fieldAddr ?_
        refine l_load ?_
        refine l_cmp ?_
        refine l_move ?_
        refine l_split h (fun _ h => ?_) (fun _ h => ?_)
        · refine l_off ?_
          refine l_off ?_
          refine l_off ?_
          refine l_off ?_
          refine l_off ?_
          refine l_off ?_
          refine l_pick_true ?_
          refine l_assign ?_
          refine k_nil ?_
          refine f_t ?_
          refine k_retc ?_
          refine f_br ?_
          refine f_tr ?_
          exact k_brk [] hB h
        refine l_on ?_
        refine l_move ?_
        refine l_on ?_
        refine l_move ?_
        refine l_on ?_
        refine l_at h (fun v4 _ h => ?_)
        refine l_on ?_
        refine l_fieldAddr ?_
        refine l_on ?_
        refine l_load ?_
        refine l_on ?_
        refine l_cmp ?_
        refine l_pick_false ?_
        refine l_assign ?_
        refine k_nil ?_
        refine f_t ?_
        refine k_retc ?_
        refine f_br ?_
        refine f_tr ?_
        exact k_brk [] hB h
      refine k_skip ?_
      refine f_b ?_
      refine f_t ?_
      refine k_reg ?_
      refine l_move ?_
      refine l_move ?_
      refine l_at h (fun v5 _ h => ?_)
      refine l_fieldAddr ?_
      refine l_load ?_
      refine l_assign ?_
      refine k_nil ?_
      exact k_next [] hB h
    refine k_exit ?_
    refine f_te ?_
    exact k_brk [] hB h
  rcases q with q6 | q7
  · dsimp only [Sum.elim] at h ⊢
    refine f_br ?_
    refine f_tr ?_
    apply k_ret [] hB h
  dsimp only [Sum.elim] at h ⊢
  refine f_be ?_
  refine f_t ?_
  refine k_seq ?_
  refine k_reg ?_
  refine l_assign ?_
  refine k_nil ?_
  refine f_t ?_
  refine k_retc ?_
  apply k_ret [] hB h
theorem doc_declared_c1_ok {o : TDecl} {p1 : TDecl} {r : Bool} (h : doc_declared_c1 o p1 = some r) : XSpec Tryz.prog 209 [.agg (c_TDecl o), .vptr (c_TDecl p1)] [] (B r) [] [] := by
  unfold doc_declared_c1 at h
  refine X_of_run Tryz.hU Tryz.func209 (fun _ _ _ hB => ?_)
  refine k_seq ?_
  refine k_reg ?_
  refine l_box ?_
  refine l_assign ?_
  refine k_nil ?_
  refine f_t ?_
  refine k_seq ?_
  refine k_reg ?_
  refine l_fieldAddr ?_
  refine l_load ?_
  refine l_fieldAddr ?_
  refine l_load ?_
  refine l_seq ?_
  refine l_assign ?_
  refine k_nil ?_
  refine f_t ?_
  refine k_retc ?_
  apply k_ret [] hB h
theorem slices_IndexFunc_Decl_ok {s : (List TDecl)} {f : (TDecl → Option Bool)} {fk_f : Nat} {fc_f : List AV} (hf_f : ∀ {x0 : TDecl} {r : Bool}, f x0 = some r → XSpec Tryz.prog fk_f ((.agg (c_TDecl x0)) :: fc_f) [] (B r) [] []) (hc_f : AV.closedL fc_f = true ∧ AV.onlyL [] fc_f = true) {r : Int} (h : slices_IndexFunc_Decl s f = some r) : XSpec Tryz.prog 236 [.vs s.length (F c_TDecl s), .fn (.func fk_f) [] fc_f] [] (I r) [] [] := by
  unfold slices_IndexFunc_Decl at h
  refine X_of_run Tryz.hU Tryz.func236 (fun _ _ _ hB => ?_)
  refine k_seq ?_
  refine k_reg ?_
  refine l_assign ?_
  refine k_nil ?_
  refine f_t ?_
  refine k_seq ?_
  refine k_seq ?_
  refine k_reg ?_
  refine l_move ?_
  refine l_len ?_
  refine l_move ?_
  refine k_nil ?_
  refine f_t ?_
  refine k_block ?_
  refine k_loop (fun y1 => ⟨[(0, .vs s.length (F c_TDecl s)), (1, .fn (.func fk_f) [] fc_f), (7, I (s.length : Int)), (8, I y1)], [], []⟩) (Sum.elim (fun q4 => (.ret, ⟨[(4, I q4)], [], []⟩)) (fun q5 => (.exit 0, ⟨[], [], []⟩))) [] hB h (fun y1 t h => ?_) (fun q h => ?_)
  · unfold slices_IndexFunc_Decl_b1 at h
    refine k_seq ?_
    refine k_reg ?_
    refine l_cmp ?_
    refine k_nil ?_
    refine f_t ?_
    refine k_seq ?_
    refine k_if h (fun _ h => ?_) (fun _ h => ?_)
    · refine k_skip ?_
      refine f_t ?_
      refine k_seq ?_
      refine k_block ?_
      refine k_seq ?_
      refine k_reg ?_
      refine l_move ?_
      refine l_assign ?_
      refine k_nil ?_
      refine f_t ?_
      refine k_seq ?_
      refine k_reg ?_
      refine l_move ?_
      refine l_move ?_
      refine l_move ?_
      refine l_at h (fun v2 _ h => ?_)
      refine l_load_agg ?_
      refine l_callF hc_f h (fun _ => hf_f) (fun v3 _ h => ?_)
      refine k_nil ?_
      refine f_t ?_
      refine k_if h (fun _ h => ?_) (fun _ h => ?_)
      · refine k_seq ?_
        refine k_reg ?_
        refine l_move ?_
        refine l_assign ?_
        refine k_nil ?_
        refine f_t ?_
        refine k_retc ?_
        refine f_br ?_
        refine f_tr ?_
        exact k_brk [] hB h
      refine k_skip ?_
      refine f_b ?_
      refine f_t ?_
      refine k_reg ?_
      refine l_addw ?_
      refine l_move ?_
      refine k_nil ?_
      exact k_next [] hB h
    refine k_exit ?_
    refine f_te ?_
    exact k_brk [] hB h
  rcases q with q4 | q5
  · dsimp only [Sum.elim] at h ⊢
    refine f_br ?_
    refine f_tr ?_
    apply k_ret [] hB h
  dsimp only [Sum.elim] at h ⊢
  refine f_be ?_
  refine f_t ?_
  refine k_seq ?_
  refine k_reg ?_
  refine l_assign ?_
  refine k_nil ?_
  refine f_t ?_
  refine k_retc ?_
  apply k_ret [] hB h
theorem slices_ContainsFunc_Decl_ok {s : (List TDecl)} {f : (TDecl → Option Bool)} {fk_f : Nat} {fc_f : List AV} (hf_f : ∀ {x0 : TDecl} {r : Bool}, f x0 = some r → XSpec Tryz.prog fk_f ((.agg (c_TDecl x0)) :: fc_f) [] (B r) [] []) (hc_f : AV.closedL fc_f = true ∧ AV.onlyL [] fc_f = true) {r : Bool} (h : slices_ContainsFunc_Decl s f = some r) : XSpec Tryz.prog 208 [.vs s.length (F c_TDecl s), .fn (.func fk_f) [] fc_f] [] (B r) [] [] := by
  unfold slices_ContainsFunc_Decl at h
  refine X_of_run Tryz.hU Tryz.func208 (fun _ _ _ hB => ?_)
  refine k_seq ?_
  refine k_reg ?_
  refine l_assign ?_
  refine k_nil ?_
  refine f_t ?_
  refine k_seq ?_
  refine k_reg ?_
  refine l_move ?_
  refine l_move ?_
  refine l_call h (fun _ => slices_IndexFunc_Decl_ok (fun h => hf_f h) hc_f) (fun v1 _ h => ?_)
  refine l_cmp ?_
  refine l_assign ?_
  refine k_nil ?_
  refine f_t ?_
  refine k_retc ?_
  apply k_ret [] hB h
theorem doc_prefix_ok {s : Str} {r : Bool} (h : doc_prefix s = some r) : XSpec Tryz.prog 210 [S s] [] (B r) [] [] := by
  unfold doc_prefix at h
  refine X_of_run Tryz.hU Tryz.func210 (fun _ _ _ hB => ?_)
  refine k_seq ?_
  refine k_reg ?_
  refine l_assign ?_
  refine k_nil ?_
  refine f_t ?_
  refine k_seq ?_
  refine k_reg ?_
  refine l_move ?_
  refine l_seq ?_
  refine l_move ?_
  refine l_split h (fun _ h => ?_) (fun _ h => ?_)
  · refine l_off ?_
    refine l_off ?_
    refine l_pick_true ?_
    refine l_assign ?_
    refine k_nil ?_
    refine f_t ?_
    refine k_retc ?_
    apply k_ret [] hB h
  refine l_on ?_
  refine l_move ?_
  refine l_on ?_
  refine l_call h (fun _ => name_Is_ok) (fun v1 _ h => ?_)
  refine l_pick_false ?_
  refine l_assign ?_
  refine k_nil ?_
  refine f_t ?_
  refine k_retc ?_
  apply k_ret [] hB h
theorem doc_text_ok {s : Str} {r : Bool} (h : doc_text s = some r) : XSpec Tryz.prog 179 [S s] [] (B r) [] [] := by
  unfold doc_text at h
  refine X_of_run Tryz.hU Tryz.func179 (fun _ _ _ hB => ?_)
  refine k_seq ?_
  refine k_reg ?_
  refine l_assign ?_
  refine k_nil ?_
  refine f_t ?_
  refine k_seq ?_
  refine k_reg ?_
  refine l_move ?_
  refine l_strb ?_
  refine l_callB h (fun _ => utf_Text_ok) (fun v1 _ h => ?_)
  refine l_assign ?_
  refine k_nil ?_
  refine f_t ?_
  refine k_retc ?_
  apply k_ret [] hB h
theorem doc_declared_ok {l : (List TDecl)} {r : Bool} (h : doc_declared l = some r) : XSpec Tryz.prog 177 [.vs l.length (F c_TDecl l)] [] (B r) [] [] := by
  unfold doc_declared at h
  refine X_of_run Tryz.hU Tryz.func177 (fun _ _ _ hB => ?_)
  refine k_seq ?_
  refine k_reg ?_
  refine l_assign ?_
  refine k_nil ?_
  refine f_t ?_
  refine k_seq ?_
  refine k_seq ?_
  refine k_reg ?_
  refine l_move ?_
  refine l_len ?_
  refine l_move ?_
  refine k_nil ?_
  refine f_t ?_
  refine k_block ?_
  refine k_loop (fun y1 => ⟨[(0, .vs l.length (F c_TDecl l)), (6, .vs l.length (F c_TDecl l)), (7, I (l.length : Int)), (8, I y1)], [], []⟩) (Sum.elim (fun q7 => (.ret, ⟨[(2, B false)], [], []⟩)) (fun q8 => (.exit 0, ⟨[], [], []⟩))) [] hB h (fun y1 t h => ?_) (fun q h => ?_)
  · unfold doc_declared_b1 at h
    refine k_seq ?_
    refine k_reg ?_
    refine l_cmp ?_
    refine k_nil ?_
    refine f_t ?_
    refine k_seq ?_
    refine k_if h (fun _ h => ?_) (fun _ h => ?_)
    · refine k_skip ?_
      refine f_t ?_
      refine k_seq ?_
      refine k_block ?_
      refine k_seq ?_
      refine k_reg ?_
      refine l_move ?_
      refine l_at h (fun v2 _ h => ?_)
      refine l_load_agg ?_
      refine l_alloc ?_
      refine l_assign ?_
      refine l_store_box ?_
      refine k_nil ?_
      refine f_t ?_
      refine k_seq ?_
      refine k_reg ?_
      refine l_move ?_
      refine l_move ?_
      refine l_subf h (fun v3 _ h => ?_)
      refine l_makeFunc ?_
      refine l_callB h (fun _ => slices_ContainsFunc_Decl_ok (fun h => doc_declared_c1_ok h) ⟨rfl, rfl⟩) (fun v4 _ h => ?_)
      refine l_assign ?_
      refine k_nil ?_
      refine f_t ?_
      refine k_seq ?_
      refine k_reg ?_
      refine l_move ?_
      refine l_move ?_
      refine l_split h (fun _ h => ?_) (fun _ h => ?_)
      · refine l_off ?_
        refine l_off ?_
        refine l_off ?_
        refine l_off ?_
        refine l_pick_true ?_
        refine l_move ?_
        refine l_off ?_
        refine l_off ?_
        refine l_off ?_
        refine l_pick_true ?_
        refine l_move ?_
        refine l_off ?_
        refine l_off ?_
        refine l_off ?_
        refine l_off ?_
        refine l_pick_true ?_
        refine l_move ?_
        refine l_off ?_
        refine l_off ?_
        refine l_off ?_
        refine l_off ?_
        refine l_off ?_
        refine l_off ?_
        refine l_off ?_
        refine l_off ?_
        refine l_pick_true ?_
        refine l_move ?_
        refine l_off ?_
        refine l_off ?_
        refine l_off ?_
        refine l_off ?_
        refine l_off ?_
        refine l_off ?_
        refine l_off ?_
        refine l_pick_true ?_
        refine l_move ?_
        refine l_off ?_
        refine l_off ?_
        refine l_off ?_
        refine l_pick_true ?_
        refine k_nil ?_
        refine f_t ?_
        refine k_t ?_
        refine k_seq ?_
        refine k_reg ?_
        refine l_assign ?_
        refine k_nil ?_
        refine f_t ?_
        refine k_retc ?_
        refine f_br ?_
        refine f_tr ?_
        exact k_brk [] hB h
      refine l_on ?_
      refine l_fieldAddr ?_
      refine l_on ?_
      refine l_load ?_
      refine l_on ?_
      refine l_call h (fun _ => doc_prefix_ok) (fun v5 _ h => ?_)
      refine l_on ?_
      refine l_un ?_
      refine l_pick_false ?_
      refine l_move ?_
      refine l_split h (fun _ h => ?_) (fun _ h => ?_)
      · refine l_off ?_
        refine l_off ?_
        refine l_off ?_
        refine l_pick_true ?_
        refine l_move ?_
        refine l_off ?_
        refine l_off ?_
        refine l_off ?_
        refine l_off ?_
        refine l_pick_true ?_
        refine l_move ?_
        refine l_off ?_
        refine l_off ?_
        refine l_off ?_
        refine l_off ?_
        refine l_off ?_
        refine l_off ?_
        refine l_off ?_
        refine l_off ?_
        refine l_pick_true ?_
        refine l_move ?_
        refine l_off ?_
        refine l_off ?_
        refine l_off ?_
        refine l_off ?_
        refine l_off ?_
        refine l_off ?_
        refine l_off ?_
        refine l_pick_true ?_
        refine l_move ?_
        refine l_off ?_
        refine l_off ?_
        refine l_off ?_
        refine l_pick_true ?_
        refine k_nil ?_
        refine f_t ?_
        refine k_t ?_
        refine k_seq ?_
        refine k_reg ?_
        refine l_assign ?_
        refine k_nil ?_
        refine f_t ?_
        refine k_retc ?_
        refine f_br ?_
        refine f_tr ?_
        exact k_brk [] hB h
      refine l_on ?_
      refine l_fieldAddr ?_
      refine l_on ?_
      refine l_load ?_
      refine l_on ?_
      refine l_seq ?_
      refine l_pick_false ?_
      refine l_move ?_
      refine l_split h (fun _ h => ?_) (fun _ h => ?_)
      · refine l_off ?_
        refine l_off ?_
        refine l_off ?_
        refine l_off ?_
        refine l_pick_true ?_
        refine l_move ?_
        refine l_off ?_
        refine l_off ?_
        refine l_off ?_
        refine l_off ?_
        refine l_off ?_
        refine l_off ?_
        refine l_off ?_
        refine l_off ?_
        refine l_pick_true ?_
        refine l_move ?_
        refine l_off ?_
        refine l_off ?_
        refine l_off ?_
        refine l_off ?_
        refine l_off ?_
        refine l_off ?_
        refine l_off ?_
        refine l_pick_true ?_
        refine l_move ?_
        refine l_off ?_
        refine l_off ?_
        refine l_off ?_
        refine l_pick_true ?_
        refine k_nil ?_
        refine f_t ?_
        refine k_t ?_
        refine k_seq ?_
        refine k_reg ?_
        refine l_assign ?_
        refine k_nil ?_
        refine f_t ?_
        refine k_retc ?_
        refine f_br ?_
        refine f_tr ?_
        exact k_brk [] hB h
      refine l_on ?_
      refine l_fieldAddr ?_
      refine l_on ?_
      refine l_load ?_
      refine l_on ?_
      refine l_call h (fun _ => doc_text_ok) (fun v6 _ h => ?_)
      refine l_on ?_
      refine l_un ?_
      refine l_pick_false ?_
      refine l_move ?_
      refine l_split h (fun _ h => ?_) (fun _ h => ?_)
      · refine l_off ?_
        refine l_off ?_
        refine l_off ?_
        refine l_off ?_
        refine l_off ?_
        refine l_off ?_
        refine l_off ?_
        refine l_off ?_
        refine l_pick_true ?_
        refine l_move ?_
        refine l_off ?_
        refine l_off ?_
        refine l_off ?_
        refine l_off ?_
        refine l_off ?_
        refine l_off ?_
        refine l_off ?_
        refine l_pick_true ?_
        refine l_move ?_
        refine l_off ?_
        refine l_off ?_
        refine l_off ?_
        refine l_pick_true ?_
        refine k_nil ?_
        refine f_t ?_
        refine k_t ?_
        refine k_seq ?_
        refine k_reg ?_
        refine l_assign ?_
        refine k_nil ?_
        refine f_t ?_
        refine k_retc ?_
        refine f_br ?_
        refine f_tr ?_
        exact k_brk [] hB h
      refine l_on ?_
      refine l_fieldAddr ?_
      refine l_on ?_
      refine l_load ?_
      refine l_on ?_
      refine l_seq ?_
      refine l_on ?_
      refine l_move ?_
      refine l_split h (fun _ h => ?_) (fun _ h => ?_)
      · refine l_on ?_
        refine l_fieldAddr ?_
        refine l_on ?_
        refine l_load ?_
        refine l_on ?_
        refine l_sne ?_
        refine l_on ?_
        refine l_pick_true ?_
        refine l_pick_false ?_
        refine l_move ?_
        refine l_split h (fun _ h => ?_) (fun _ h => ?_)
        · refine l_off ?_
          refine l_off ?_
          refine l_off ?_
          refine l_off ?_
          refine l_off ?_
          refine l_off ?_
          refine l_off ?_
          refine l_pick_true ?_
          refine l_move ?_
          refine l_off ?_
          refine l_off ?_
          refine l_off ?_
          refine l_pick_true ?_
          refine k_nil ?_
          refine f_t ?_
          refine k_t ?_
          refine k_seq ?_
          refine k_reg ?_
          refine l_assign ?_
          refine k_nil ?_
          refine f_t ?_
          refine k_retc ?_
          refine f_br ?_
          refine f_tr ?_
          exact k_brk [] hB h
        refine l_on ?_
        refine l_fieldAddr ?_
        refine l_on ?_
        refine l_load ?_
        refine l_on ?_
        refine l_seq ?_
        refine l_on ?_
        refine l_fieldAddr ?_
        refine l_on ?_
        refine l_load ?_
        refine l_on ?_
        refine l_seq ?_
        refine l_on ?_
        refine l_bool ?_
        refine l_pick_false ?_
        refine l_move ?_
        refine l_split h (fun _ h => ?_) (fun _ h => ?_)
        · refine l_off ?_
          refine l_off ?_
          refine l_off ?_
          refine l_pick_true ?_
          refine k_nil ?_
          refine f_t ?_
          refine k_t ?_
          refine k_seq ?_
          refine k_reg ?_
          refine l_assign ?_
          refine k_nil ?_
          refine f_t ?_
          refine k_retc ?_
          refine f_br ?_
          refine f_tr ?_
          exact k_brk [] hB h
        refine l_on ?_
        refine l_fieldAddr ?_
        refine l_on ?_
        refine l_load ?_
        refine l_on ?_
        refine l_seq ?_
        refine l_pick_false ?_
        refine k_nil ?_
        refine f_t ?_
        refine k_if h (fun _ h => ?_) (fun _ h => ?_)
        · refine k_seq ?_
          refine k_reg ?_
          refine l_assign ?_
          refine k_nil ?_
          refine f_t ?_
          refine k_retc ?_
          refine f_br ?_
          refine f_tr ?_
          exact k_brk [] hB h
        refine k_skip ?_
        refine f_b ?_
        refine f_t ?_
        refine k_reg ?_
        refine l_addw ?_
        refine l_move ?_
        refine k_nil ?_
        exact k_next [] hB h
      refine l_off ?_
      refine l_off ?_
      refine l_off ?_
      refine l_on ?_
      refine l_pick_false ?_
      refine l_pick_false ?_
      refine l_move ?_
      refine l_on ?_
      refine l_fieldAddr ?_
      refine l_on ?_
      refine l_load ?_
      refine l_on ?_
      refine l_seq ?_
      refine l_on ?_
      refine l_fieldAddr ?_
      refine l_on ?_
      refine l_load ?_
      refine l_on ?_
      refine l_seq ?_
      refine l_on ?_
      refine l_bool ?_
      refine l_pick_false ?_
      refine l_move ?_
      refine l_split h (fun _ h => ?_) (fun _ h => ?_)
      · refine l_off ?_
        refine l_off ?_
        refine l_off ?_
        refine l_pick_true ?_
        refine k_nil ?_
        refine f_t ?_
        refine k_t ?_
        refine k_seq ?_
        refine k_reg ?_
        refine l_assign ?_
        refine k_nil ?_
        refine f_t ?_
        refine k_retc ?_
        refine f_br ?_
        refine f_tr ?_
        exact k_brk [] hB h
      refine l_on ?_
      refine l_fieldAddr ?_
      refine l_on ?_
      refine l_load ?_
      refine l_on ?_
      refine l_seq ?_
      refine l_pick_false ?_
      refine k_nil ?_
      refine f_t ?_
      refine k_if h (fun _ h => ?_) (fun _ h => ?_)
      · refine k_seq ?_
        refine k_reg ?_
        refine l_assign ?_
        refine k_nil ?_
        refine f_t ?_
        refine k_retc ?_
        refine f_br ?_
        refine f_tr ?_
        exact k_brk [] hB h
      refine k_skip ?_
      refine f_b ?_
      refine f_t ?_
      refine k_reg ?_
      refine l_addw ?_
      refine l_move ?_
      refine k_nil ?_
      exact k_next [] hB h
    refine k_exit ?_
    refine f_te ?_
    exact k_brk [] hB h
  rcases q with q7 | q8
  · dsimp only [Sum.elim] at h ⊢
    refine f_br ?_
    refine f_tr ?_
    apply k_ret [] hB h
  dsimp only [Sum.elim] at h ⊢
  refine f_be ?_
  refine f_t ?_
  refine k_seq ?_
  refine k_reg ?_
  refine l_assign ?_
  refine k_nil ?_
  refine f_t ?_
  refine k_retc ?_
  apply k_ret [] hB h
end Go.Proofs.YtipbfnjpfmmkfaaGreatDoor
