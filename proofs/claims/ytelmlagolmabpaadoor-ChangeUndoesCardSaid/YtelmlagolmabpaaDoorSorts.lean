/-
  DERIVED: THE SHELF's CONTRACTS AT THIS DUMP, IN PLAIN WORDS (tools/lay-plain.mjs out of 'TrydSorts.lean', which tools/lay-shelf.mjs wrote): THE SAME DECLARATIONS UNDER THE SAME NAMES: 'import', 'namespace', 'open', 'def', 'theorem' AND NOTHING ELSE: no command of the shelf's: FOR A HAND-IN. Each laying: the table of numbers ('.._ren') and one theorem, a field a fact of the dump's own or the kernel's comparison; each contract: ONE APPLICATION.
-/
import Derived.Shelf.Sort.Plain
import Derived.Test.YtelmlagolmabpaaDoorProg
namespace Go.Proofs
open Go.Shelf
def Tryd.lays190_ren : Go.Shelf.Ren := ⟨fun | 190 => 106 | 125 => 115 | 258 => 114 | 128 => 131 | 129 => 132 | 302 => 122 | 303 => 123 | 304 => 124 | 305 => 125 | 306 => 126 | 307 => 127 | 308 => 128 | 309 => 129 | 310 => 130 | 333 => 139 | 329 => 140 | 330 => 141 | 334 => 142 | 335 => 143 | 336 => 144 | 344 => 147 | n => n, fun | 31 => 121 | 9 => 9 | 3 => 3 | 46 => 132 | 0 => 0 | 51 => 161 | 53 => 117 | 4 => 4 | 183 => 154 | 182 => 153 | 131 => 120 | 5 => 5 | 218 => 171 | 222 => 175 | 228 => 180 | 229 => 181 | n => n, fun | n => n⟩
theorem Tryd.lays190 : Go.Proofs.Lays.n190 Tryd.prog Tryd.lays190_ren := {
  mixed := by kernel_rfl
  f125 := Tryd.func115.trans (congrArg some (by kernel_rfl))
  f128 := Tryd.func131.trans (congrArg some (by kernel_rfl))
  f129 := Tryd.func132.trans (congrArg some (by kernel_rfl))
  f190 := Tryd.func106.trans (congrArg some (by kernel_rfl))
  f258 := Tryd.func114.trans (congrArg some (by kernel_rfl))
  f302 := Tryd.func122.trans (congrArg some (by kernel_rfl))
  f303 := Tryd.func123.trans (congrArg some (by kernel_rfl))
  f304 := Tryd.func124.trans (congrArg some (by kernel_rfl))
  f305 := Tryd.func125.trans (congrArg some (by kernel_rfl))
  f306 := Tryd.func126.trans (congrArg some (by kernel_rfl))
  f307 := Tryd.func127.trans (congrArg some (by kernel_rfl))
  f308 := Tryd.func128.trans (congrArg some (by kernel_rfl))
  f309 := Tryd.func129.trans (congrArg some (by kernel_rfl))
  f310 := Tryd.func130.trans (congrArg some (by kernel_rfl))
  f329 := Tryd.func140.trans (congrArg some (by kernel_rfl))
  f330 := Tryd.func141.trans (congrArg some (by kernel_rfl))
  f333 := Tryd.func139.trans (congrArg some (by kernel_rfl))
  f334 := Tryd.func142.trans (congrArg some (by kernel_rfl))
  f335 := Tryd.func143.trans (congrArg some (by kernel_rfl))
  f336 := Tryd.func144.trans (congrArg some (by kernel_rfl))
  f344 := Tryd.func147.trans (congrArg some (by kernel_rfl))
  t0 := Tryd.underlying0
  a0 := Tryd.isAgg0
  z0 := Tryd.sizeOf0
  v0 := Tryd.zeroValue0
  t3 := Tryd.underlying3
  a3 := Tryd.isAgg3
  z3 := Tryd.sizeOf3
  v3 := Tryd.zeroValue3
  t4 := Tryd.underlying4
  a4 := Tryd.isAgg4
  z4 := Tryd.sizeOf4
  v4 := Tryd.zeroValue4
  t5 := Tryd.underlying5
  a5 := Tryd.isAgg5
  z5 := Tryd.sizeOf5
  v5 := Tryd.zeroValue5
  t9 := Tryd.underlying9
  a9 := Tryd.isAgg9
  z9 := Tryd.sizeOf9
  v9 := Tryd.zeroValue9
  t31 := Tryd.underlying121
  a31 := Tryd.isAgg121
  z31 := Tryd.sizeOf121
  v31 := Tryd.zeroValue121
  t46 := Tryd.underlying132
  a46 := Tryd.isAgg132
  z46 := Tryd.sizeOf132
  v46 := Tryd.zeroValue132
  t51 := Tryd.underlying161
  a51 := Tryd.isAgg161
  z51 := Tryd.sizeOf161
  v51 := Tryd.zeroValue161
  t53 := Tryd.underlying117
  a53 := Tryd.isAgg117
  z53 := Tryd.sizeOf117
  v53 := Tryd.zeroValue117
  t131 := Tryd.underlying120
  a131 := Tryd.isAgg120
  z131 := Tryd.sizeOf120
  v131 := Tryd.zeroValue120
  t182 := Tryd.underlying153
  a182 := Tryd.isAgg153
  z182 := Tryd.sizeOf153
  v182 := Tryd.zeroValue153
  t183 := Tryd.underlying154
  a183 := Tryd.isAgg154
  z183 := Tryd.sizeOf154
  v183 := Tryd.zeroValue154
  t218 := Tryd.underlying171
  a218 := Tryd.isAgg171
  z218 := Tryd.sizeOf171
  v218 := Tryd.zeroValue171
  t222 := Tryd.underlying175
  a222 := Tryd.isAgg175
  z222 := Tryd.sizeOf175
  v222 := Tryd.zeroValue175
  t228 := Tryd.underlying180
  a228 := Tryd.isAgg180
  z228 := Tryd.sizeOf180
  v228 := Tryd.zeroValue180
  t229 := Tryd.underlying181
  a229 := Tryd.isAgg181
  z229 := Tryd.sizeOf181
  v229 := Tryd.zeroValue181 }
end Go.Proofs
