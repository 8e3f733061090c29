/-
  The table of the types that the policy laws name. Conditions: none.
-/
import Derived.Test.YtebcdmfekidfoaaProg
import Derived.Test.YtebcdmfekidfoaaAbsWalk
namespace Go.Proofs.Ytebcdmfekidfoaa
open Go Go.Abs
def Try.U : List (Nat × TI) := [
  (2, ⟨.int .i64, 1, 8, .int .i64 0⟩),
  (3, ⟨.int .i64, 1, 8, .int .i64 0⟩),
  (4, ⟨.bool, 1, 1, .bool false⟩),
  (5, ⟨.int .u8, 1, 1, .int .u8 0⟩),
  (9, ⟨.string, 1, 16, .string ⟨#[]⟩⟩),
  (22, ⟨.slice 27, 1, 24, .slice none 0 0⟩),
  (24, ⟨.slice 28, 1, 24, .slice none 0 0⟩),
  (25, ⟨.slice 5, 1, 24, .slice none 0 0⟩),
  (27, ⟨.struct #[{ name := "Name", type := 9, offset := 0, embedded := false, tag := "", pkgPath := "", byteOffset := 0 }, { name := "Bytes", type := 25, offset := 1, embedded := false, tag := "", pkgPath := "", byteOffset := 16 }], 2, 40, .agg #[.string ⟨#[]⟩, .slice none 0 0]⟩),
  (28, ⟨.struct #[{ name := "Name", type := 9, offset := 0, embedded := false, tag := "", pkgPath := "", byteOffset := 0 }, { name := "Bytes", type := 25, offset := 1, embedded := false, tag := "", pkgPath := "", byteOffset := 16 }], 2, 40, .agg #[.string ⟨#[]⟩, .slice none 0 0]⟩),
  (29, ⟨.int .i64, 1, 8, .int .i64 0⟩),
  (34, ⟨.slice 9, 1, 24, .slice none 0 0⟩),
  (36, ⟨.struct #[{ name := "Fuel", type := 3, offset := 0, embedded := false, tag := "", pkgPath := "", byteOffset := 0 }, { name := "Refs", type := 3, offset := 1, embedded := false, tag := "", pkgPath := "", byteOffset := 8 }, { name := "Need", type := 34, offset := 2, embedded := false, tag := "", pkgPath := "", byteOffset := 16 }], 3, 40, .agg #[.int .i64 0, .int .i64 0, .slice none 0 0]⟩),
  (37, ⟨.slice 90, 1, 24, .slice none 0 0⟩),
  (39, ⟨.struct #[{ name := "Kind", type := 3, offset := 0, embedded := false, tag := "", pkgPath := "", byteOffset := 0 }, { name := "Parts", type := 37, offset := 1, embedded := false, tag := "", pkgPath := "", byteOffset := 8 }, { name := "Comments", type := 4, offset := 2, embedded := false, tag := "", pkgPath := "", byteOffset := 32 }, { name := "Prefixes", type := 34, offset := 3, embedded := false, tag := "", pkgPath := "", byteOffset := 40 }], 4, 64, .agg #[.int .i64 0, .slice none 0 0, .bool false, .slice none 0 0]⟩),
  (40, ⟨.slice 45, 1, 24, .slice none 0 0⟩),
  (42, ⟨.struct #[{ name := "Signature", type := 3, offset := 0, embedded := false, tag := "", pkgPath := "", byteOffset := 0 }, { name := "Signed", type := 3, offset := 1, embedded := false, tag := "", pkgPath := "", byteOffset := 8 }, { name := "Way", type := 39, offset := 2, embedded := false, tag := "", pkgPath := "", byteOffset := 16 }, { name := "Refs", type := 40, offset := 6, embedded := false, tag := "", pkgPath := "", byteOffset := 80 }, { name := "Value", type := 25, offset := 7, embedded := false, tag := "", pkgPath := "", byteOffset := 104 }, { name := "Key", type := 9, offset := 8, embedded := false, tag := "", pkgPath := "", byteOffset := 128 }], 9, 144, .agg #[.int .i64 0, .int .i64 0, .int .i64 0, .slice none 0 0, .bool false, .slice none 0 0, .slice none 0 0, .slice none 0 0, .string ⟨#[]⟩]⟩),
  (43, ⟨.slice 39, 1, 24, .slice none 0 0⟩),
  (45, ⟨.struct #[{ name := "URI", type := 9, offset := 0, embedded := false, tag := "", pkgPath := "", byteOffset := 0 }, { name := "Steps", type := 43, offset := 1, embedded := false, tag := "", pkgPath := "", byteOffset := 16 }, { name := "Digest", type := 25, offset := 2, embedded := false, tag := "", pkgPath := "", byteOffset := 40 }], 3, 64, .agg #[.string ⟨#[]⟩, .slice none 0 0, .slice none 0 0]⟩),
  (47, ⟨.struct #[{ name := "Fuel", type := 3, offset := 0, embedded := false, tag := "", pkgPath := "", byteOffset := 0 }, { name := "Refs", type := 3, offset := 1, embedded := false, tag := "", pkgPath := "", byteOffset := 8 }, { name := "Need", type := 34, offset := 2, embedded := false, tag := "", pkgPath := "", byteOffset := 16 }], 3, 40, .agg #[.int .i64 0, .int .i64 0, .slice none 0 0]⟩),
  (48, ⟨.slice 97, 1, 24, .slice none 0 0⟩),
  (50, ⟨.struct #[{ name := "Kind", type := 3, offset := 0, embedded := false, tag := "", pkgPath := "", byteOffset := 0 }, { name := "Parts", type := 48, offset := 1, embedded := false, tag := "", pkgPath := "", byteOffset := 8 }, { name := "Comments", type := 4, offset := 2, embedded := false, tag := "", pkgPath := "", byteOffset := 32 }, { name := "Prefixes", type := 34, offset := 3, embedded := false, tag := "", pkgPath := "", byteOffset := 40 }], 4, 64, .agg #[.int .i64 0, .slice none 0 0, .bool false, .slice none 0 0]⟩),
  (51, ⟨.slice 76, 1, 24, .slice none 0 0⟩),
  (53, ⟨.struct #[{ name := "Signature", type := 3, offset := 0, embedded := false, tag := "", pkgPath := "", byteOffset := 0 }, { name := "Signed", type := 3, offset := 1, embedded := false, tag := "", pkgPath := "", byteOffset := 8 }, { name := "Way", type := 50, offset := 2, embedded := false, tag := "", pkgPath := "", byteOffset := 16 }, { name := "Refs", type := 51, offset := 6, embedded := false, tag := "", pkgPath := "", byteOffset := 80 }, { name := "Value", type := 25, offset := 7, embedded := false, tag := "", pkgPath := "", byteOffset := 104 }, { name := "Key", type := 9, offset := 8, embedded := false, tag := "", pkgPath := "", byteOffset := 128 }], 9, 144, .agg #[.int .i64 0, .int .i64 0, .int .i64 0, .slice none 0 0, .bool false, .slice none 0 0, .slice none 0 0, .slice none 0 0, .string ⟨#[]⟩]⟩),
  (72, ⟨.func #[27] #[4] false, 1, 8, .nilFunc⟩),
  (74, ⟨.slice 50, 1, 24, .slice none 0 0⟩),
  (76, ⟨.struct #[{ name := "URI", type := 9, offset := 0, embedded := false, tag := "", pkgPath := "", byteOffset := 0 }, { name := "Steps", type := 74, offset := 1, embedded := false, tag := "", pkgPath := "", byteOffset := 16 }, { name := "Digest", type := 25, offset := 2, embedded := false, tag := "", pkgPath := "", byteOffset := 40 }], 3, 64, .agg #[.string ⟨#[]⟩, .slice none 0 0, .slice none 0 0]⟩),
  (79, ⟨.func #[45] #[4] false, 1, 8, .nilFunc⟩),
  (84, ⟨.slice 87, 1, 24, .slice none 0 0⟩),
  (85, ⟨.slice 119, 1, 24, .slice none 0 0⟩),
  (87, ⟨.struct #[{ name := "Kind", type := 3, offset := 0, embedded := false, tag := "", pkgPath := "", byteOffset := 0 }, { name := "Text", type := 9, offset := 1, embedded := false, tag := "", pkgPath := "", byteOffset := 8 }, { name := "N", type := 2, offset := 2, embedded := false, tag := "", pkgPath := "", byteOffset := 24 }, { name := "Abs", type := 4, offset := 3, embedded := false, tag := "", pkgPath := "", byteOffset := 32 }, { name := "Args", type := 84, offset := 4, embedded := false, tag := "", pkgPath := "", byteOffset := 40 }, { name := "Preds", type := 84, offset := 5, embedded := false, tag := "", pkgPath := "", byteOffset := 64 }, { name := "Steps", type := 85, offset := 6, embedded := false, tag := "", pkgPath := "", byteOffset := 88 }], 7, 112, .agg #[.int .i64 0, .string ⟨#[]⟩, .int .i64 0, .bool false, .slice none 0 0, .slice none 0 0, .slice none 0 0]⟩),
  (88, ⟨.slice 160, 1, 24, .slice none 0 0⟩),
  (90, ⟨.struct #[{ name := "Op", type := 3, offset := 0, embedded := false, tag := "", pkgPath := "", byteOffset := 0 }, { name := "E", type := 87, offset := 1, embedded := false, tag := "", pkgPath := "", byteOffset := 8 }, { name := "Spaces", type := 88, offset := 8, embedded := false, tag := "", pkgPath := "", byteOffset := 120 }], 9, 144, .agg #[.int .i64 0, .int .i64 0, .string ⟨#[]⟩, .int .i64 0, .bool false, .slice none 0 0, .slice none 0 0, .slice none 0 0, .slice none 0 0]⟩),
  (91, ⟨.slice 94, 1, 24, .slice none 0 0⟩),
  (92, ⟨.slice 115, 1, 24, .slice none 0 0⟩),
  (94, ⟨.struct #[{ name := "Kind", type := 3, offset := 0, embedded := false, tag := "", pkgPath := "", byteOffset := 0 }, { name := "Text", type := 9, offset := 1, embedded := false, tag := "", pkgPath := "", byteOffset := 8 }, { name := "N", type := 2, offset := 2, embedded := false, tag := "", pkgPath := "", byteOffset := 24 }, { name := "Abs", type := 4, offset := 3, embedded := false, tag := "", pkgPath := "", byteOffset := 32 }, { name := "Args", type := 91, offset := 4, embedded := false, tag := "", pkgPath := "", byteOffset := 40 }, { name := "Preds", type := 91, offset := 5, embedded := false, tag := "", pkgPath := "", byteOffset := 64 }, { name := "Steps", type := 92, offset := 6, embedded := false, tag := "", pkgPath := "", byteOffset := 88 }], 7, 112, .agg #[.int .i64 0, .string ⟨#[]⟩, .int .i64 0, .bool false, .slice none 0 0, .slice none 0 0, .slice none 0 0]⟩),
  (97, ⟨.struct #[{ name := "Op", type := 3, offset := 0, embedded := false, tag := "", pkgPath := "", byteOffset := 0 }, { name := "E", type := 94, offset := 1, embedded := false, tag := "", pkgPath := "", byteOffset := 8 }, { name := "Spaces", type := 88, offset := 8, embedded := false, tag := "", pkgPath := "", byteOffset := 120 }], 9, 144, .agg #[.int .i64 0, .int .i64 0, .string ⟨#[]⟩, .int .i64 0, .bool false, .slice none 0 0, .slice none 0 0, .slice none 0 0, .slice none 0 0]⟩),
  (113, ⟨.struct #[{ name := "Kind", type := 3, offset := 0, embedded := false, tag := "", pkgPath := "", byteOffset := 0 }, { name := "Prefix", type := 9, offset := 1, embedded := false, tag := "", pkgPath := "", byteOffset := 8 }, { name := "Local", type := 9, offset := 2, embedded := false, tag := "", pkgPath := "", byteOffset := 24 }, { name := "Has", type := 4, offset := 3, embedded := false, tag := "", pkgPath := "", byteOffset := 40 }], 4, 48, .agg #[.int .i64 0, .string ⟨#[]⟩, .string ⟨#[]⟩, .bool false]⟩),
  (115, ⟨.struct #[{ name := "Axis", type := 3, offset := 0, embedded := false, tag := "", pkgPath := "", byteOffset := 0 }, { name := "Test", type := 113, offset := 1, embedded := false, tag := "", pkgPath := "", byteOffset := 8 }, { name := "Preds", type := 91, offset := 5, embedded := false, tag := "", pkgPath := "", byteOffset := 56 }], 6, 80, .agg #[.int .i64 0, .int .i64 0, .string ⟨#[]⟩, .string ⟨#[]⟩, .bool false, .slice none 0 0]⟩),
  (117, ⟨.struct #[{ name := "Kind", type := 3, offset := 0, embedded := false, tag := "", pkgPath := "", byteOffset := 0 }, { name := "Prefix", type := 9, offset := 1, embedded := false, tag := "", pkgPath := "", byteOffset := 8 }, { name := "Local", type := 9, offset := 2, embedded := false, tag := "", pkgPath := "", byteOffset := 24 }, { name := "Has", type := 4, offset := 3, embedded := false, tag := "", pkgPath := "", byteOffset := 40 }], 4, 48, .agg #[.int .i64 0, .string ⟨#[]⟩, .string ⟨#[]⟩, .bool false]⟩),
  (119, ⟨.struct #[{ name := "Axis", type := 3, offset := 0, embedded := false, tag := "", pkgPath := "", byteOffset := 0 }, { name := "Test", type := 117, offset := 1, embedded := false, tag := "", pkgPath := "", byteOffset := 8 }, { name := "Preds", type := 84, offset := 5, embedded := false, tag := "", pkgPath := "", byteOffset := 56 }], 6, 80, .agg #[.int .i64 0, .int .i64 0, .string ⟨#[]⟩, .string ⟨#[]⟩, .bool false, .slice none 0 0]⟩),
  (160, ⟨.struct #[{ name := "Prefix", type := 9, offset := 0, embedded := false, tag := "", pkgPath := "", byteOffset := 0 }, { name := "URI", type := 9, offset := 1, embedded := false, tag := "", pkgPath := "", byteOffset := 16 }], 2, 32, .agg #[.string ⟨#[]⟩, .string ⟨#[]⟩]⟩)]
theorem Try.hU : TabOk Try.prog Try.U :=
  .cons (by kernel_rfl) (by kernel_rfl) <|
  .cons (by kernel_rfl) (by kernel_rfl) <|
  .cons (by kernel_rfl) (by kernel_rfl) <|
  .cons (by kernel_rfl) (by kernel_rfl) <|
  .cons (by kernel_rfl) (by kernel_rfl) <|
  .cons (by kernel_rfl) (by kernel_rfl) <|
  .cons (by kernel_rfl) (by kernel_rfl) <|
  .cons (by kernel_rfl) (by kernel_rfl) <|
  .cons (by kernel_rfl) (by kernel_rfl) <|
  .cons (by kernel_rfl) (by kernel_rfl) <|
  .cons (by kernel_rfl) (by kernel_rfl) <|
  .cons (by kernel_rfl) (by kernel_rfl) <|
  .cons (by kernel_rfl) (by kernel_rfl) <|
  .cons (by kernel_rfl) (by kernel_rfl) <|
  .cons (by kernel_rfl) (by kernel_rfl) <|
  .cons (by kernel_rfl) (by kernel_rfl) <|
  .cons (by kernel_rfl) (by kernel_rfl) <|
  .cons (by kernel_rfl) (by kernel_rfl) <|
  .cons (by kernel_rfl) (by kernel_rfl) <|
  .cons (by kernel_rfl) (by kernel_rfl) <|
  .cons (by kernel_rfl) (by kernel_rfl) <|
  .cons (by kernel_rfl) (by kernel_rfl) <|
  .cons (by kernel_rfl) (by kernel_rfl) <|
  .cons (by kernel_rfl) (by kernel_rfl) <|
  .cons (by kernel_rfl) (by kernel_rfl) <|
  .cons (by kernel_rfl) (by kernel_rfl) <|
  .cons (by kernel_rfl) (by kernel_rfl) <|
  .cons (by kernel_rfl) (by kernel_rfl) <|
  .cons (by kernel_rfl) (by kernel_rfl) <|
  .cons (by kernel_rfl) (by kernel_rfl) <|
  .cons (by kernel_rfl) (by kernel_rfl) <|
  .cons (by kernel_rfl) (by kernel_rfl) <|
  .cons (by kernel_rfl) (by kernel_rfl) <|
  .cons (by kernel_rfl) (by kernel_rfl) <|
  .cons (by kernel_rfl) (by kernel_rfl) <|
  .cons (by kernel_rfl) (by kernel_rfl) <|
  .cons (by kernel_rfl) (by kernel_rfl) <|
  .cons (by kernel_rfl) (by kernel_rfl) <|
  .cons (by kernel_rfl) (by kernel_rfl) <|
  .cons (by kernel_rfl) (by kernel_rfl) <|
  .cons (by kernel_rfl) (by kernel_rfl) <|
  .cons (by kernel_rfl) (by kernel_rfl) <|
  .nil _
end Go.Proofs.Ytebcdmfekidfoaa
