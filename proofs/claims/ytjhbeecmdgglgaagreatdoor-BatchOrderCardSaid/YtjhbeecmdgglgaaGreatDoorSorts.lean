/-
  DERIVED: THE SHELF's CONTRACTS AT THIS DUMP, IN PLAIN WORDS (tools/lay-plain.mjs out of 'TryzSorts.lean', which tools/lay-shelf.mjs wrote): THE SAME DECLARATIONS UNDER THE SAME NAMES: 'import', 'namespace', 'open', 'def', 'theorem' AND NOTHING ELSE: no command of the shelf's: FOR A HAND-IN. Each laying: the table of numbers ('.._ren') and one theorem, a field a fact of the dump's own or the kernel's comparison; each contract: ONE APPLICATION.
-/
import Derived.Shelf.Sort.Plain
import Derived.Test.YtjhbeecmdgglgaaGreatDoorProg
namespace Go.Proofs
open Go.Shelf
def Tryz.lays190_ren : Go.Shelf.Ren := ⟨fun | 190 => 80 | 125 => 116 | 258 => 115 | 128 => 154 | 129 => 155 | 302 => 145 | 303 => 146 | 304 => 147 | 305 => 148 | 306 => 149 | 307 => 150 | 308 => 151 | 309 => 152 | 310 => 153 | 333 => 170 | 329 => 171 | 330 => 172 | 334 => 173 | 335 => 174 | 336 => 175 | 344 => 186 | n => n, fun | 31 => 121 | 9 => 9 | 3 => 3 | 46 => 146 | 0 => 0 | 51 => 195 | 53 => 144 | 4 => 4 | 183 => 188 | 182 => 187 | 131 => 100 | 5 => 5 | 218 => 215 | 222 => 219 | 228 => 226 | 229 => 227 | n => n, fun | n => n⟩
theorem Tryz.lays190 : Go.Proofs.Lays.n190 Tryz.prog Tryz.lays190_ren := {
  mixed := by kernel_rfl
  f125 := Tryz.func116.trans (congrArg some (by kernel_rfl))
  f128 := Tryz.func154.trans (congrArg some (by kernel_rfl))
  f129 := Tryz.func155.trans (congrArg some (by kernel_rfl))
  f190 := Tryz.func80.trans (congrArg some (by kernel_rfl))
  f258 := Tryz.func115.trans (congrArg some (by kernel_rfl))
  f302 := Tryz.func145.trans (congrArg some (by kernel_rfl))
  f303 := Tryz.func146.trans (congrArg some (by kernel_rfl))
  f304 := Tryz.func147.trans (congrArg some (by kernel_rfl))
  f305 := Tryz.func148.trans (congrArg some (by kernel_rfl))
  f306 := Tryz.func149.trans (congrArg some (by kernel_rfl))
  f307 := Tryz.func150.trans (congrArg some (by kernel_rfl))
  f308 := Tryz.func151.trans (congrArg some (by kernel_rfl))
  f309 := Tryz.func152.trans (congrArg some (by kernel_rfl))
  f310 := Tryz.func153.trans (congrArg some (by kernel_rfl))
  f329 := Tryz.func171.trans (congrArg some (by kernel_rfl))
  f330 := Tryz.func172.trans (congrArg some (by kernel_rfl))
  f333 := Tryz.func170.trans (congrArg some (by kernel_rfl))
  f334 := Tryz.func173.trans (congrArg some (by kernel_rfl))
  f335 := Tryz.func174.trans (congrArg some (by kernel_rfl))
  f336 := Tryz.func175.trans (congrArg some (by kernel_rfl))
  f344 := Tryz.func186.trans (congrArg some (by kernel_rfl))
  t0 := Tryz.underlying0
  a0 := Tryz.isAgg0
  z0 := Tryz.sizeOf0
  v0 := Tryz.zeroValue0
  t3 := Tryz.underlying3
  a3 := Tryz.isAgg3
  z3 := Tryz.sizeOf3
  v3 := Tryz.zeroValue3
  t4 := Tryz.underlying4
  a4 := Tryz.isAgg4
  z4 := Tryz.sizeOf4
  v4 := Tryz.zeroValue4
  t5 := Tryz.underlying5
  a5 := Tryz.isAgg5
  z5 := Tryz.sizeOf5
  v5 := Tryz.zeroValue5
  t9 := Tryz.underlying9
  a9 := Tryz.isAgg9
  z9 := Tryz.sizeOf9
  v9 := Tryz.zeroValue9
  t31 := Tryz.underlying121
  a31 := Tryz.isAgg121
  z31 := Tryz.sizeOf121
  v31 := Tryz.zeroValue121
  t46 := Tryz.underlying146
  a46 := Tryz.isAgg146
  z46 := Tryz.sizeOf146
  v46 := Tryz.zeroValue146
  t51 := Tryz.underlying195
  a51 := Tryz.isAgg195
  z51 := Tryz.sizeOf195
  v51 := Tryz.zeroValue195
  t53 := Tryz.underlying144
  a53 := Tryz.isAgg144
  z53 := Tryz.sizeOf144
  v53 := Tryz.zeroValue144
  t131 := Tryz.underlying100
  a131 := Tryz.isAgg100
  z131 := Tryz.sizeOf100
  v131 := Tryz.zeroValue100
  t182 := Tryz.underlying187
  a182 := Tryz.isAgg187
  z182 := Tryz.sizeOf187
  v182 := Tryz.zeroValue187
  t183 := Tryz.underlying188
  a183 := Tryz.isAgg188
  z183 := Tryz.sizeOf188
  v183 := Tryz.zeroValue188
  t218 := Tryz.underlying215
  a218 := Tryz.isAgg215
  z218 := Tryz.sizeOf215
  v218 := Tryz.zeroValue215
  t222 := Tryz.underlying219
  a222 := Tryz.isAgg219
  z222 := Tryz.sizeOf219
  v222 := Tryz.zeroValue219
  t228 := Tryz.underlying226
  a228 := Tryz.isAgg226
  z228 := Tryz.sizeOf226
  v228 := Tryz.zeroValue226
  t229 := Tryz.underlying227
  a229 := Tryz.isAgg227
  z229 := Tryz.sizeOf227
  v229 := Tryz.zeroValue227 }
end Go.Proofs
