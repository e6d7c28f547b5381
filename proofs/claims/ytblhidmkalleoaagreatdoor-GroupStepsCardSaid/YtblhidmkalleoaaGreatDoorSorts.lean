/-
  DERIVED: THE SHELF's CONTRACTS AT THIS DUMP, IN PLAIN WORDS (tools/lay-plain.mjs out of 'TryzSorts.lean', which tools/lay-shelf.mjs wrote): THE SAME DECLARATIONS UNDER THE SAME NAMES: 'import', 'namespace', 'open', 'def', 'theorem' AND NOTHING ELSE: no command of the shelf's: FOR A HAND-IN. Each laying: the table of numbers ('.._ren') and one theorem, a field a fact of the dump's own or the kernel's comparison; each contract: ONE APPLICATION.
-/
import Derived.Shelf.Sort.Plain
import Derived.Test.YtblhidmkalleoaaGreatDoorProg
namespace Go.Proofs
open Go.Shelf
def Tryz.lays190_ren : Go.Shelf.Ren := ⟨fun | 190 => 75 | 125 => 144 | 258 => 143 | 128 => 208 | 129 => 209 | 302 => 199 | 303 => 200 | 304 => 201 | 305 => 202 | 306 => 203 | 307 => 204 | 308 => 205 | 309 => 206 | 310 => 207 | 333 => 235 | 329 => 236 | 330 => 237 | 334 => 238 | 335 => 239 | 336 => 240 | 344 => 262 | n => n, fun | 31 => 127 | 9 => 9 | 3 => 3 | 46 => 205 | 0 => 0 | 51 => 269 | 53 => 208 | 4 => 4 | 183 => 262 | 182 => 261 | 131 => 197 | 5 => 5 | 218 => 291 | 222 => 295 | 228 => 318 | 229 => 319 | n => n, fun | n => n⟩
theorem Tryz.lays190 : Go.Proofs.Lays.n190 Tryz.prog Tryz.lays190_ren := {
  mixed := by kernel_rfl
  f125 := Tryz.func144.trans (congrArg some (by kernel_rfl))
  f128 := Tryz.func208.trans (congrArg some (by kernel_rfl))
  f129 := Tryz.func209.trans (congrArg some (by kernel_rfl))
  f190 := Tryz.func75.trans (congrArg some (by kernel_rfl))
  f258 := Tryz.func143.trans (congrArg some (by kernel_rfl))
  f302 := Tryz.func199.trans (congrArg some (by kernel_rfl))
  f303 := Tryz.func200.trans (congrArg some (by kernel_rfl))
  f304 := Tryz.func201.trans (congrArg some (by kernel_rfl))
  f305 := Tryz.func202.trans (congrArg some (by kernel_rfl))
  f306 := Tryz.func203.trans (congrArg some (by kernel_rfl))
  f307 := Tryz.func204.trans (congrArg some (by kernel_rfl))
  f308 := Tryz.func205.trans (congrArg some (by kernel_rfl))
  f309 := Tryz.func206.trans (congrArg some (by kernel_rfl))
  f310 := Tryz.func207.trans (congrArg some (by kernel_rfl))
  f329 := Tryz.func236.trans (congrArg some (by kernel_rfl))
  f330 := Tryz.func237.trans (congrArg some (by kernel_rfl))
  f333 := Tryz.func235.trans (congrArg some (by kernel_rfl))
  f334 := Tryz.func238.trans (congrArg some (by kernel_rfl))
  f335 := Tryz.func239.trans (congrArg some (by kernel_rfl))
  f336 := Tryz.func240.trans (congrArg some (by kernel_rfl))
  f344 := Tryz.func262.trans (congrArg some (by kernel_rfl))
  t0 := Tryz.underlying0
  a0 := Tryz.isAgg0
  z0 := Tryz.sizeOf0
  v0 := Tryz.zeroValue0
  t3 := Tryz.underlying3
  a3 := Tryz.isAgg3
  z3 := Tryz.sizeOf3
  v3 := Tryz.zeroValue3
  t4 := Tryz.underlying4
  a4 := Tryz.isAgg4
  z4 := Tryz.sizeOf4
  v4 := Tryz.zeroValue4
  t5 := Tryz.underlying5
  a5 := Tryz.isAgg5
  z5 := Tryz.sizeOf5
  v5 := Tryz.zeroValue5
  t9 := Tryz.underlying9
  a9 := Tryz.isAgg9
  z9 := Tryz.sizeOf9
  v9 := Tryz.zeroValue9
  t31 := Tryz.underlying127
  a31 := Tryz.isAgg127
  z31 := Tryz.sizeOf127
  v31 := Tryz.zeroValue127
  t46 := Tryz.underlying205
  a46 := Tryz.isAgg205
  z46 := Tryz.sizeOf205
  v46 := Tryz.zeroValue205
  t51 := Tryz.underlying269
  a51 := Tryz.isAgg269
  z51 := Tryz.sizeOf269
  v51 := Tryz.zeroValue269
  t53 := Tryz.underlying208
  a53 := Tryz.isAgg208
  z53 := Tryz.sizeOf208
  v53 := Tryz.zeroValue208
  t131 := Tryz.underlying197
  a131 := Tryz.isAgg197
  z131 := Tryz.sizeOf197
  v131 := Tryz.zeroValue197
  t182 := Tryz.underlying261
  a182 := Tryz.isAgg261
  z182 := Tryz.sizeOf261
  v182 := Tryz.zeroValue261
  t183 := Tryz.underlying262
  a183 := Tryz.isAgg262
  z183 := Tryz.sizeOf262
  v183 := Tryz.zeroValue262
  t218 := Tryz.underlying291
  a218 := Tryz.isAgg291
  z218 := Tryz.sizeOf291
  v218 := Tryz.zeroValue291
  t222 := Tryz.underlying295
  a222 := Tryz.isAgg295
  z222 := Tryz.sizeOf295
  v222 := Tryz.zeroValue295
  t228 := Tryz.underlying318
  a228 := Tryz.isAgg318
  z228 := Tryz.sizeOf318
  v228 := Tryz.zeroValue318
  t229 := Tryz.underlying319
  a229 := Tryz.isAgg319
  z229 := Tryz.sizeOf319
  v229 := Tryz.zeroValue319 }
end Go.Proofs
