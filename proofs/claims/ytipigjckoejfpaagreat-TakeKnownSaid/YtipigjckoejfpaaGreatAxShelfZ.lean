/- The library's sort of whole numbers, laid at this program (written by the kit's lay-plain tool). Conditions: none. -/
import Derived.Shelf.Sort.Plain
import Derived.Shelf.Slices.In.SortNone
import Derived.Test.YtipigjckoejfpaaGreatProg
set_option linter.unusedSimpArgs false
set_option linter.unusedVariables false
namespace Go.Proofs
open Go.Shelf
def Tryz.lays189_ren : Go.Shelf.Ren := ⟨fun | 189 => 168 | 125 => 233 | 257 => 232 | 128 => 270 | 129 => 271 | 294 => 261 | 295 => 262 | 296 => 263 | 297 => 264 | 298 => 265 | 299 => 266 | 216 => 267 | 300 => 268 | 301 => 269 | 328 => 284 | 329 => 285 | 330 => 286 | 331 => 287 | 332 => 288 | 215 => 289 | 343 => 292 | n => n, fun | 28 => 28 | 3 => 3 | 46 => 194 | 0 => 0 | 51 => 249 | 53 => 31 | 4 => 4 | 183 => 243 | 182 => 242 | 131 => 144 | 5 => 5 | 9 => 9 | 218 => 257 | 222 => 260 | 228 => 264 | 229 => 265 | n => n, fun | n => n⟩
theorem Tryz.lays189 : Go.Proofs.Lays.n189 Tryz.prog Tryz.lays189_ren := {
  mixed := by kernel_rfl
  f125 := Tryz.func233.trans (congrArg some (by kernel_rfl))
  f128 := Tryz.func270.trans (congrArg some (by kernel_rfl))
  f129 := Tryz.func271.trans (congrArg some (by kernel_rfl))
  f189 := Tryz.func168.trans (congrArg some (by kernel_rfl))
  f215 := Tryz.func289.trans (congrArg some (by kernel_rfl))
  f216 := Tryz.func267.trans (congrArg some (by kernel_rfl))
  f257 := Tryz.func232.trans (congrArg some (by kernel_rfl))
  f294 := Tryz.func261.trans (congrArg some (by kernel_rfl))
  f295 := Tryz.func262.trans (congrArg some (by kernel_rfl))
  f296 := Tryz.func263.trans (congrArg some (by kernel_rfl))
  f297 := Tryz.func264.trans (congrArg some (by kernel_rfl))
  f298 := Tryz.func265.trans (congrArg some (by kernel_rfl))
  f299 := Tryz.func266.trans (congrArg some (by kernel_rfl))
  f300 := Tryz.func268.trans (congrArg some (by kernel_rfl))
  f301 := Tryz.func269.trans (congrArg some (by kernel_rfl))
  f328 := Tryz.func284.trans (congrArg some (by kernel_rfl))
  f329 := Tryz.func285.trans (congrArg some (by kernel_rfl))
  f330 := Tryz.func286.trans (congrArg some (by kernel_rfl))
  f331 := Tryz.func287.trans (congrArg some (by kernel_rfl))
  f332 := Tryz.func288.trans (congrArg some (by kernel_rfl))
  f343 := Tryz.func292.trans (congrArg some (by kernel_rfl))
  t0 := Tryz.underlying0
  a0 := Tryz.isAgg0
  z0 := Tryz.sizeOf0
  v0 := Tryz.zeroValue0
  t3 := Tryz.underlying3
  a3 := Tryz.isAgg3
  z3 := Tryz.sizeOf3
  v3 := Tryz.zeroValue3
  t4 := Tryz.underlying4
  a4 := Tryz.isAgg4
  z4 := Tryz.sizeOf4
  v4 := Tryz.zeroValue4
  t5 := Tryz.underlying5
  a5 := Tryz.isAgg5
  z5 := Tryz.sizeOf5
  v5 := Tryz.zeroValue5
  t9 := Tryz.underlying9
  a9 := Tryz.isAgg9
  z9 := Tryz.sizeOf9
  v9 := Tryz.zeroValue9
  t28 := Tryz.underlying28
  a28 := Tryz.isAgg28
  z28 := Tryz.sizeOf28
  v28 := Tryz.zeroValue28
  t46 := Tryz.underlying194
  a46 := Tryz.isAgg194
  z46 := Tryz.sizeOf194
  v46 := Tryz.zeroValue194
  t51 := Tryz.underlying249
  a51 := Tryz.isAgg249
  z51 := Tryz.sizeOf249
  v51 := Tryz.zeroValue249
  t53 := Tryz.underlying31
  a53 := Tryz.isAgg31
  z53 := Tryz.sizeOf31
  v53 := Tryz.zeroValue31
  t131 := Tryz.underlying144
  a131 := Tryz.isAgg144
  z131 := Tryz.sizeOf144
  v131 := Tryz.zeroValue144
  t182 := Tryz.underlying242
  a182 := Tryz.isAgg242
  z182 := Tryz.sizeOf242
  v182 := Tryz.zeroValue242
  t183 := Tryz.underlying243
  a183 := Tryz.isAgg243
  z183 := Tryz.sizeOf243
  v183 := Tryz.zeroValue243
  t218 := Tryz.underlying257
  a218 := Tryz.isAgg257
  z218 := Tryz.sizeOf257
  v218 := Tryz.zeroValue257
  t222 := Tryz.underlying260
  a222 := Tryz.isAgg260
  z222 := Tryz.sizeOf260
  v222 := Tryz.zeroValue260
  t228 := Tryz.underlying264
  a228 := Tryz.isAgg264
  z228 := Tryz.sizeOf264
  v228 := Tryz.zeroValue264
  t229 := Tryz.underlying265
  a229 := Tryz.isAgg265
  z229 := Tryz.sizeOf265
  v229 := Tryz.zeroValue265 }
end Go.Proofs
