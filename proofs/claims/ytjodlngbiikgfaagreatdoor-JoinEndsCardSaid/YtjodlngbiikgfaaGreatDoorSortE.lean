/-
  DERIVED: THE SHELF's CONTRACTS AT THIS DUMP, IN PLAIN WORDS (tools/lay-plain.mjs out of 'TryzSortE.lean', which tools/lay-shelf.mjs wrote): THE SAME DECLARATIONS UNDER THE SAME NAMES: 'import', 'namespace', 'open', 'def', 'theorem' AND NOTHING ELSE: no command of the shelf's: FOR A HAND-IN. Each laying: the table of numbers ('.._ren') and one theorem, a field a fact of the dump's own or the kernel's comparison; each contract: ONE APPLICATION.
-/
import Derived.Shelf.SlGeneric
import Derived.Shelf.SlSortCmp.WholeK
import Derived.Ground.SlsfProg
import Derived.Test.YtjodlngbiikgfaaGreatDoorProg
namespace Go.Proofs
open Go.Shelf
def Tryz.sortEnt_ren : Go.Shelf.Ren := ⟨fun | 6 => 113 | 15 => 159 | 14 => 158 | 28 => 183 | 29 => 184 | 20 => 175 | 21 => 176 | 22 => 177 | 23 => 178 | 24 => 179 | 25 => 180 | 26 => 181 | 27 => 182 | 46 => 196 | 47 => 197 | 48 => 198 | 49 => 199 | 50 => 200 | 57 => 218 | n => n, fun | 22 => 26 | 24 => 63 | 25 => 115 | 3 => 3 | 39 => 222 | 0 => 0 | 53 => 245 | 55 => 182 | 4 => 4 | 46 => 239 | 45 => 238 | 50 => 184 | 5 => 5 | 9 => 9 | 66 => 262 | 70 => 266 | 76 => 278 | 77 => 279 | n => n, fun | n => n⟩
theorem Tryz.sortEnt : Go.Proofs.SlLaysF0.n6 Tryz.prog Tryz.sortEnt_ren := {
  mixed := by kernel_rfl
  f6 := ⟨Tryz.f113.name, by decide, Tryz.func113.trans (congrArg some (by kernel_rfl))⟩
  f14 := ⟨Tryz.f158.name, by decide, Tryz.func158.trans (congrArg some (by kernel_rfl))⟩
  f15 := Tryz.func159.trans (congrArg some (by kernel_rfl))
  f20 := ⟨Tryz.f175.name, by decide, Tryz.func175.trans (congrArg some (by kernel_rfl))⟩
  f21 := ⟨Tryz.f176.name, by decide, Tryz.func176.trans (congrArg some (by kernel_rfl))⟩
  f22 := ⟨Tryz.f177.name, by decide, Tryz.func177.trans (congrArg some (by kernel_rfl))⟩
  f23 := ⟨Tryz.f178.name, by decide, Tryz.func178.trans (congrArg some (by kernel_rfl))⟩
  f24 := ⟨Tryz.f179.name, by decide, Tryz.func179.trans (congrArg some (by kernel_rfl))⟩
  f25 := ⟨Tryz.f180.name, by decide, Tryz.func180.trans (congrArg some (by kernel_rfl))⟩
  f26 := ⟨Tryz.f181.name, by decide, Tryz.func181.trans (congrArg some (by kernel_rfl))⟩
  f27 := ⟨Tryz.f182.name, by decide, Tryz.func182.trans (congrArg some (by kernel_rfl))⟩
  f28 := Tryz.func183.trans (congrArg some (by kernel_rfl))
  f29 := Tryz.func184.trans (congrArg some (by kernel_rfl))
  f46 := ⟨Tryz.f196.name, by decide, Tryz.func196.trans (congrArg some (by kernel_rfl))⟩
  f47 := Tryz.func197.trans (congrArg some (by kernel_rfl))
  f48 := Tryz.func198.trans (congrArg some (by kernel_rfl))
  f49 := ⟨Tryz.f199.name, by decide, Tryz.func199.trans (congrArg some (by kernel_rfl))⟩
  f50 := ⟨Tryz.f200.name, by decide, Tryz.func200.trans (congrArg some (by kernel_rfl))⟩
  f57 := ⟨Tryz.f218.name, by decide, Tryz.func218.trans (congrArg some (by kernel_rfl))⟩
  t0 := Tryz.underlying0
  a0 := Tryz.isAgg0
  z0 := Tryz.sizeOf0
  v0 := Tryz.zeroValue0
  t3 := Tryz.underlying3
  a3 := Tryz.isAgg3
  z3 := Tryz.sizeOf3
  v3 := Tryz.zeroValue3
  t4 := Tryz.underlying4
  a4 := Tryz.isAgg4
  z4 := Tryz.sizeOf4
  v4 := Tryz.zeroValue4
  t5 := Tryz.underlying5
  a5 := Tryz.isAgg5
  z5 := Tryz.sizeOf5
  v5 := Tryz.zeroValue5
  t9 := Tryz.underlying9
  a9 := Tryz.isAgg9
  z9 := Tryz.sizeOf9
  v9 := Tryz.zeroValue9
  t22 := Tryz.underlying26
  a22 := Tryz.isAgg26
  z22 := Tryz.sizeOf26
  v22 := Tryz.zeroValue26
  t25 := Tryz.underlying115
  a25 := Tryz.isAgg115
  z25 := Tryz.sizeOf115
  v25 := Tryz.zeroValue115
  t39 := Tryz.underlying222
  a39 := Tryz.isAgg222
  z39 := Tryz.sizeOf222
  v39 := Tryz.zeroValue222
  t45 := Tryz.underlying238
  a45 := Tryz.isAgg238
  z45 := Tryz.sizeOf238
  v45 := Tryz.zeroValue238
  t46 := Tryz.underlying239
  a46 := Tryz.isAgg239
  z46 := Tryz.sizeOf239
  v46 := Tryz.zeroValue239
  t50 := Tryz.underlying184
  a50 := Tryz.isAgg184
  z50 := Tryz.sizeOf184
  v50 := Tryz.zeroValue184
  t53 := Tryz.underlying245
  a53 := Tryz.isAgg245
  z53 := Tryz.sizeOf245
  v53 := Tryz.zeroValue245
  t55 := Tryz.underlying182
  a55 := Tryz.isAgg182
  z55 := Tryz.sizeOf182
  v55 := Tryz.zeroValue182
  t66 := Tryz.underlying262
  a66 := Tryz.isAgg262
  z66 := Tryz.sizeOf262
  v66 := Tryz.zeroValue262
  t70 := Tryz.underlying266
  a70 := Tryz.isAgg266
  z70 := Tryz.sizeOf266
  v70 := Tryz.zeroValue266
  t76 := Tryz.underlying278
  a76 := Tryz.isAgg278
  z76 := Tryz.sizeOf278
  v76 := Tryz.zeroValue278
  t77 := Tryz.underlying279
  a77 := Tryz.isAgg279
  z77 := Tryz.sizeOf279
  v77 := Tryz.zeroValue279 }
end Go.Proofs
