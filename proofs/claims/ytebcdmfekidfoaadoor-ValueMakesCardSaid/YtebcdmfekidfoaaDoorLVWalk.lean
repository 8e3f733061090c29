/-
  DERIVED: THE SHELF's CONTRACTS AT THIS DUMP, IN PLAIN WORDS (tools/lay-plain.mjs out of 'LTry.lean', which tools/lay-shelf.mjs wrote): THE SAME DECLARATIONS UNDER THE SAME NAMES: 'import', 'namespace', 'open', 'def', 'theorem' AND NOTHING ELSE: no command of the shelf's: FOR A HAND-IN. Each laying: the table of numbers ('.._ren') and one theorem, a field a fact of the dump's own or the kernel's comparison; each contract: ONE APPLICATION.
-/
import Derived.Shelf.SlGeneric
import Derived.Shelf.SlLaysF0
import Derived.Ground.SlsfProg
import Derived.Test.YtebcdmfekidfoaaDoorProg
namespace Go.Proofs
open Go.Shelf
def Tryd.sort49_ren : Go.Shelf.Ren := ⟨fun | 6 => 49 | 15 => 67 | 14 => 66 | 28 => 96 | 29 => 97 | 20 => 88 | 21 => 89 | 22 => 90 | 23 => 91 | 24 => 92 | 25 => 93 | 26 => 94 | 27 => 95 | 46 => 115 | 47 => 116 | 48 => 117 | 49 => 118 | 50 => 119 | 57 => 125 | n => n, fun | 22 => 23 | 24 => 60 | 25 => 75 | 3 => 3 | 39 => 104 | 0 => 0 | 53 => 137 | 55 => 121 | 4 => 4 | 46 => 130 | 45 => 129 | 50 => 134 | 5 => 5 | 9 => 9 | 66 => 155 | 70 => 159 | 76 => 162 | 77 => 163 | n => n, fun | n => n⟩
theorem Tryd.sort49 : Go.Proofs.SlLaysF0.n6 Tryd.prog Tryd.sort49_ren := {
  mixed := by kernel_rfl
  f6 := ⟨Tryd.f49.name, by decide, Tryd.func49.trans (congrArg some (by kernel_rfl))⟩
  f14 := ⟨Tryd.f66.name, by decide, Tryd.func66.trans (congrArg some (by kernel_rfl))⟩
  f15 := Tryd.func67.trans (congrArg some (by kernel_rfl))
  f20 := ⟨Tryd.f88.name, by decide, Tryd.func88.trans (congrArg some (by kernel_rfl))⟩
  f21 := ⟨Tryd.f89.name, by decide, Tryd.func89.trans (congrArg some (by kernel_rfl))⟩
  f22 := ⟨Tryd.f90.name, by decide, Tryd.func90.trans (congrArg some (by kernel_rfl))⟩
  f23 := ⟨Tryd.f91.name, by decide, Tryd.func91.trans (congrArg some (by kernel_rfl))⟩
  f24 := ⟨Tryd.f92.name, by decide, Tryd.func92.trans (congrArg some (by kernel_rfl))⟩
  f25 := ⟨Tryd.f93.name, by decide, Tryd.func93.trans (congrArg some (by kernel_rfl))⟩
  f26 := ⟨Tryd.f94.name, by decide, Tryd.func94.trans (congrArg some (by kernel_rfl))⟩
  f27 := ⟨Tryd.f95.name, by decide, Tryd.func95.trans (congrArg some (by kernel_rfl))⟩
  f28 := Tryd.func96.trans (congrArg some (by kernel_rfl))
  f29 := Tryd.func97.trans (congrArg some (by kernel_rfl))
  f46 := ⟨Tryd.f115.name, by decide, Tryd.func115.trans (congrArg some (by kernel_rfl))⟩
  f47 := Tryd.func116.trans (congrArg some (by kernel_rfl))
  f48 := Tryd.func117.trans (congrArg some (by kernel_rfl))
  f49 := ⟨Tryd.f118.name, by decide, Tryd.func118.trans (congrArg some (by kernel_rfl))⟩
  f50 := ⟨Tryd.f119.name, by decide, Tryd.func119.trans (congrArg some (by kernel_rfl))⟩
  f57 := ⟨Tryd.f125.name, by decide, Tryd.func125.trans (congrArg some (by kernel_rfl))⟩
  t0 := Tryd.underlying0
  a0 := Tryd.isAgg0
  z0 := Tryd.sizeOf0
  v0 := Tryd.zeroValue0
  t3 := Tryd.underlying3
  a3 := Tryd.isAgg3
  z3 := Tryd.sizeOf3
  v3 := Tryd.zeroValue3
  t4 := Tryd.underlying4
  a4 := Tryd.isAgg4
  z4 := Tryd.sizeOf4
  v4 := Tryd.zeroValue4
  t5 := Tryd.underlying5
  a5 := Tryd.isAgg5
  z5 := Tryd.sizeOf5
  v5 := Tryd.zeroValue5
  t9 := Tryd.underlying9
  a9 := Tryd.isAgg9
  z9 := Tryd.sizeOf9
  v9 := Tryd.zeroValue9
  t22 := Tryd.underlying23
  a22 := Tryd.isAgg23
  z22 := Tryd.sizeOf23
  v22 := Tryd.zeroValue23
  t25 := Tryd.underlying75
  a25 := Tryd.isAgg75
  z25 := Tryd.sizeOf75
  v25 := Tryd.zeroValue75
  t39 := Tryd.underlying104
  a39 := Tryd.isAgg104
  z39 := Tryd.sizeOf104
  v39 := Tryd.zeroValue104
  t45 := Tryd.underlying129
  a45 := Tryd.isAgg129
  z45 := Tryd.sizeOf129
  v45 := Tryd.zeroValue129
  t46 := Tryd.underlying130
  a46 := Tryd.isAgg130
  z46 := Tryd.sizeOf130
  v46 := Tryd.zeroValue130
  t50 := Tryd.underlying134
  a50 := Tryd.isAgg134
  z50 := Tryd.sizeOf134
  v50 := Tryd.zeroValue134
  t53 := Tryd.underlying137
  a53 := Tryd.isAgg137
  z53 := Tryd.sizeOf137
  v53 := Tryd.zeroValue137
  t55 := Tryd.underlying121
  a55 := Tryd.isAgg121
  z55 := Tryd.sizeOf121
  v55 := Tryd.zeroValue121
  t66 := Tryd.underlying155
  a66 := Tryd.isAgg155
  z66 := Tryd.sizeOf155
  v66 := Tryd.zeroValue155
  t70 := Tryd.underlying159
  a70 := Tryd.isAgg159
  z70 := Tryd.sizeOf159
  v70 := Tryd.zeroValue159
  t76 := Tryd.underlying162
  a76 := Tryd.isAgg162
  z76 := Tryd.sizeOf162
  v76 := Tryd.zeroValue162
  t77 := Tryd.underlying163
  a77 := Tryd.isAgg163
  z77 := Tryd.sizeOf163
  v77 := Tryd.zeroValue163 }
end Go.Proofs
