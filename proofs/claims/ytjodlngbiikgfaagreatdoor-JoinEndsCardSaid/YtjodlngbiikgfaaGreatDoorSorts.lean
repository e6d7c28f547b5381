/-
  DERIVED: THE SHELF's CONTRACTS AT THIS DUMP, IN PLAIN WORDS (tools/lay-plain.mjs out of 'TryzSorts.lean', which tools/lay-shelf.mjs wrote): THE SAME DECLARATIONS UNDER THE SAME NAMES: 'import', 'namespace', 'open', 'def', 'theorem' AND NOTHING ELSE: no command of the shelf's: FOR A HAND-IN. Each laying: the table of numbers ('.._ren') and one theorem, a field a fact of the dump's own or the kernel's comparison; each contract: ONE APPLICATION.
-/
import Derived.Shelf.Sort.Plain
import Derived.Test.YtjodlngbiikgfaaGreatDoorProg
namespace Go.Proofs
open Go.Shelf
def Tryz.lays190_ren : Go.Shelf.Ren := ⟨fun | 190 => 161 | 125 => 159 | 258 => 191 | 128 => 183 | 129 => 184 | 302 => 207 | 303 => 208 | 304 => 209 | 305 => 210 | 306 => 211 | 307 => 212 | 308 => 213 | 309 => 214 | 310 => 215 | 333 => 225 | 329 => 197 | 330 => 198 | 334 => 226 | 335 => 227 | 336 => 228 | 344 => 232 | n => n, fun | 31 => 185 | 9 => 9 | 3 => 3 | 46 => 222 | 0 => 0 | 51 => 245 | 53 => 182 | 4 => 4 | 183 => 239 | 182 => 238 | 131 => 184 | 5 => 5 | 218 => 262 | 222 => 266 | 228 => 278 | 229 => 279 | n => n, fun | n => n⟩
theorem Tryz.lays190 : Go.Proofs.Lays.n190 Tryz.prog Tryz.lays190_ren := {
  mixed := by kernel_rfl
  f125 := Tryz.func159.trans (congrArg some (by kernel_rfl))
  f128 := Tryz.func183.trans (congrArg some (by kernel_rfl))
  f129 := Tryz.func184.trans (congrArg some (by kernel_rfl))
  f190 := Tryz.func161.trans (congrArg some (by kernel_rfl))
  f258 := Tryz.func191.trans (congrArg some (by kernel_rfl))
  f302 := Tryz.func207.trans (congrArg some (by kernel_rfl))
  f303 := Tryz.func208.trans (congrArg some (by kernel_rfl))
  f304 := Tryz.func209.trans (congrArg some (by kernel_rfl))
  f305 := Tryz.func210.trans (congrArg some (by kernel_rfl))
  f306 := Tryz.func211.trans (congrArg some (by kernel_rfl))
  f307 := Tryz.func212.trans (congrArg some (by kernel_rfl))
  f308 := Tryz.func213.trans (congrArg some (by kernel_rfl))
  f309 := Tryz.func214.trans (congrArg some (by kernel_rfl))
  f310 := Tryz.func215.trans (congrArg some (by kernel_rfl))
  f329 := Tryz.func197.trans (congrArg some (by kernel_rfl))
  f330 := Tryz.func198.trans (congrArg some (by kernel_rfl))
  f333 := Tryz.func225.trans (congrArg some (by kernel_rfl))
  f334 := Tryz.func226.trans (congrArg some (by kernel_rfl))
  f335 := Tryz.func227.trans (congrArg some (by kernel_rfl))
  f336 := Tryz.func228.trans (congrArg some (by kernel_rfl))
  f344 := Tryz.func232.trans (congrArg some (by kernel_rfl))
  t0 := Tryz.underlying0
  a0 := Tryz.isAgg0
  z0 := Tryz.sizeOf0
  v0 := Tryz.zeroValue0
  t3 := Tryz.underlying3
  a3 := Tryz.isAgg3
  z3 := Tryz.sizeOf3
  v3 := Tryz.zeroValue3
  t4 := Tryz.underlying4
  a4 := Tryz.isAgg4
  z4 := Tryz.sizeOf4
  v4 := Tryz.zeroValue4
  t5 := Tryz.underlying5
  a5 := Tryz.isAgg5
  z5 := Tryz.sizeOf5
  v5 := Tryz.zeroValue5
  t9 := Tryz.underlying9
  a9 := Tryz.isAgg9
  z9 := Tryz.sizeOf9
  v9 := Tryz.zeroValue9
  t31 := Tryz.underlying185
  a31 := Tryz.isAgg185
  z31 := Tryz.sizeOf185
  v31 := Tryz.zeroValue185
  t46 := Tryz.underlying222
  a46 := Tryz.isAgg222
  z46 := Tryz.sizeOf222
  v46 := Tryz.zeroValue222
  t51 := Tryz.underlying245
  a51 := Tryz.isAgg245
  z51 := Tryz.sizeOf245
  v51 := Tryz.zeroValue245
  t53 := Tryz.underlying182
  a53 := Tryz.isAgg182
  z53 := Tryz.sizeOf182
  v53 := Tryz.zeroValue182
  t131 := Tryz.underlying184
  a131 := Tryz.isAgg184
  z131 := Tryz.sizeOf184
  v131 := Tryz.zeroValue184
  t182 := Tryz.underlying238
  a182 := Tryz.isAgg238
  z182 := Tryz.sizeOf238
  v182 := Tryz.zeroValue238
  t183 := Tryz.underlying239
  a183 := Tryz.isAgg239
  z183 := Tryz.sizeOf239
  v183 := Tryz.zeroValue239
  t218 := Tryz.underlying262
  a218 := Tryz.isAgg262
  z218 := Tryz.sizeOf262
  v218 := Tryz.zeroValue262
  t222 := Tryz.underlying266
  a222 := Tryz.isAgg266
  z222 := Tryz.sizeOf266
  v222 := Tryz.zeroValue266
  t228 := Tryz.underlying278
  a228 := Tryz.isAgg278
  z228 := Tryz.sizeOf278
  v228 := Tryz.zeroValue278
  t229 := Tryz.underlying279
  a229 := Tryz.isAgg279
  z229 := Tryz.sizeOf279
  v229 := Tryz.zeroValue279 }
end Go.Proofs
