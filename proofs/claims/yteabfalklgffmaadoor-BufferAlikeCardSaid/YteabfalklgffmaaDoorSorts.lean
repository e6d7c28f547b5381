/-
  DERIVED: THE SHELF's CONTRACTS AT THIS DUMP, IN PLAIN WORDS (tools/lay-plain.mjs out of 'TrydSorts.lean', which tools/lay-shelf.mjs wrote): THE SAME DECLARATIONS UNDER THE SAME NAMES: 'import', 'namespace', 'open', 'def', 'theorem' AND NOTHING ELSE: no command of the shelf's: FOR A HAND-IN. Each laying: the table of numbers ('.._ren') and one theorem, a field a fact of the dump's own or the kernel's comparison; each contract: ONE APPLICATION.
-/
import Derived.Shelf.SlGeneric
import Derived.Shelf.SlSortCmp.WholeK
import Derived.Ground.SlsfProg
import Derived.Test.YteabfalklgffmaaDoorProg
namespace Go.Proofs
open Go.Shelf
def Tryd.sortEnt_ren : Go.Shelf.Ren := ⟨fun | 6 => 53 | 15 => 65 | 14 => 64 | 28 => 78 | 29 => 79 | 20 => 70 | 21 => 71 | 22 => 72 | 23 => 73 | 24 => 74 | 25 => 75 | 26 => 76 | 27 => 77 | 46 => 87 | 47 => 88 | 48 => 89 | 49 => 90 | 50 => 91 | 57 => 98 | n => n, fun | 22 => 22 | 24 => 28 | 25 => 55 | 3 => 3 | 39 => 75 | 0 => 0 | 53 => 109 | 55 => 89 | 4 => 4 | 46 => 103 | 45 => 102 | 50 => 53 | 5 => 5 | 9 => 9 | 66 => 123 | 70 => 127 | 76 => 132 | 77 => 133 | n => n, fun | n => n⟩
theorem Tryd.sortEnt : Go.Proofs.SlLaysF0.n6 Tryd.prog Tryd.sortEnt_ren := {
  mixed := by kernel_rfl
  f6 := ⟨Tryd.f53.name, by decide, Tryd.func53.trans (congrArg some (by kernel_rfl))⟩
  f14 := ⟨Tryd.f64.name, by decide, Tryd.func64.trans (congrArg some (by kernel_rfl))⟩
  f15 := Tryd.func65.trans (congrArg some (by kernel_rfl))
  f20 := ⟨Tryd.f70.name, by decide, Tryd.func70.trans (congrArg some (by kernel_rfl))⟩
  f21 := ⟨Tryd.f71.name, by decide, Tryd.func71.trans (congrArg some (by kernel_rfl))⟩
  f22 := ⟨Tryd.f72.name, by decide, Tryd.func72.trans (congrArg some (by kernel_rfl))⟩
  f23 := ⟨Tryd.f73.name, by decide, Tryd.func73.trans (congrArg some (by kernel_rfl))⟩
  f24 := ⟨Tryd.f74.name, by decide, Tryd.func74.trans (congrArg some (by kernel_rfl))⟩
  f25 := ⟨Tryd.f75.name, by decide, Tryd.func75.trans (congrArg some (by kernel_rfl))⟩
  f26 := ⟨Tryd.f76.name, by decide, Tryd.func76.trans (congrArg some (by kernel_rfl))⟩
  f27 := ⟨Tryd.f77.name, by decide, Tryd.func77.trans (congrArg some (by kernel_rfl))⟩
  f28 := Tryd.func78.trans (congrArg some (by kernel_rfl))
  f29 := Tryd.func79.trans (congrArg some (by kernel_rfl))
  f46 := ⟨Tryd.f87.name, by decide, Tryd.func87.trans (congrArg some (by kernel_rfl))⟩
  f47 := Tryd.func88.trans (congrArg some (by kernel_rfl))
  f48 := Tryd.func89.trans (congrArg some (by kernel_rfl))
  f49 := ⟨Tryd.f90.name, by decide, Tryd.func90.trans (congrArg some (by kernel_rfl))⟩
  f50 := ⟨Tryd.f91.name, by decide, Tryd.func91.trans (congrArg some (by kernel_rfl))⟩
  f57 := ⟨Tryd.f98.name, by decide, Tryd.func98.trans (congrArg some (by kernel_rfl))⟩
  t0 := Tryd.underlying0
  a0 := Tryd.isAgg0
  z0 := Tryd.sizeOf0
  v0 := Tryd.zeroValue0
  t3 := Tryd.underlying3
  a3 := Tryd.isAgg3
  z3 := Tryd.sizeOf3
  v3 := Tryd.zeroValue3
  t4 := Tryd.underlying4
  a4 := Tryd.isAgg4
  z4 := Tryd.sizeOf4
  v4 := Tryd.zeroValue4
  t5 := Tryd.underlying5
  a5 := Tryd.isAgg5
  z5 := Tryd.sizeOf5
  v5 := Tryd.zeroValue5
  t9 := Tryd.underlying9
  a9 := Tryd.isAgg9
  z9 := Tryd.sizeOf9
  v9 := Tryd.zeroValue9
  t22 := Tryd.underlying22
  a22 := Tryd.isAgg22
  z22 := Tryd.sizeOf22
  v22 := Tryd.zeroValue22
  t25 := Tryd.underlying55
  a25 := Tryd.isAgg55
  z25 := Tryd.sizeOf55
  v25 := Tryd.zeroValue55
  t39 := Tryd.underlying75
  a39 := Tryd.isAgg75
  z39 := Tryd.sizeOf75
  v39 := Tryd.zeroValue75
  t45 := Tryd.underlying102
  a45 := Tryd.isAgg102
  z45 := Tryd.sizeOf102
  v45 := Tryd.zeroValue102
  t46 := Tryd.underlying103
  a46 := Tryd.isAgg103
  z46 := Tryd.sizeOf103
  v46 := Tryd.zeroValue103
  t50 := Tryd.underlying53
  a50 := Tryd.isAgg53
  z50 := Tryd.sizeOf53
  v50 := Tryd.zeroValue53
  t53 := Tryd.underlying109
  a53 := Tryd.isAgg109
  z53 := Tryd.sizeOf109
  v53 := Tryd.zeroValue109
  t55 := Tryd.underlying89
  a55 := Tryd.isAgg89
  z55 := Tryd.sizeOf89
  v55 := Tryd.zeroValue89
  t66 := Tryd.underlying123
  a66 := Tryd.isAgg123
  z66 := Tryd.sizeOf123
  v66 := Tryd.zeroValue123
  t70 := Tryd.underlying127
  a70 := Tryd.isAgg127
  z70 := Tryd.sizeOf127
  v70 := Tryd.zeroValue127
  t76 := Tryd.underlying132
  a76 := Tryd.isAgg132
  z76 := Tryd.sizeOf132
  v76 := Tryd.zeroValue132
  t77 := Tryd.underlying133
  a77 := Tryd.isAgg133
  z77 := Tryd.sizeOf133
  v77 := Tryd.zeroValue133 }
end Go.Proofs
