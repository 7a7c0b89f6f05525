/-
  THE LIBRARY'S SORT OVER STRINGS: laid at seat 6's translation by the kit's own tool (lay-plain.mjs), and cut down to what is used.
-/
import Derived.Shelf.Slices.In.SortAlone
import Derived.Shelf.Slices.In.SortNone
import Derived.Test.YtdnapljegcihiaaGreatProg
set_option linter.unusedSimpArgs false
set_option linter.unusedVariables false
namespace Go.Proofs
open Go.Shelf
def Tryz.laysSort_ren : Go.Shelf.Ren := ⟨fun | 190 => 24 | 125 => 34 | 258 => 33 | 128 => 56 | 129 => 57 | 302 => 47 | 303 => 48 | 304 => 49 | 305 => 50 | 306 => 51 | 307 => 52 | 308 => 53 | 309 => 54 | 310 => 55 | 333 => 80 | 329 => 81 | 330 => 82 | 334 => 83 | 335 => 84 | 336 => 85 | 344 => 111 | n => n, fun | 31 => 54 | 9 => 9 | 3 => 3 | 46 => 90 | 0 => 0 | 51 => 114 | 53 => 116 | 4 => 4 | 183 => 106 | 182 => 105 | 131 => 111 | 5 => 5 | 218 => 133 | 222 => 137 | 228 => 161 | 229 => 162 | n => n, fun | n => n⟩
theorem Tryz.laysSort : Go.Proofs.Lays.n190 Tryz.prog Tryz.laysSort_ren := {
  mixed := by kernel_rfl
  f125 := Tryz.func34.trans (congrArg some (by kernel_rfl))
  f128 := Tryz.func56.trans (congrArg some (by kernel_rfl))
  f129 := Tryz.func57.trans (congrArg some (by kernel_rfl))
  f190 := Tryz.func24.trans (congrArg some (by kernel_rfl))
  f258 := Tryz.func33.trans (congrArg some (by kernel_rfl))
  f302 := Tryz.func47.trans (congrArg some (by kernel_rfl))
  f303 := Tryz.func48.trans (congrArg some (by kernel_rfl))
  f304 := Tryz.func49.trans (congrArg some (by kernel_rfl))
  f305 := Tryz.func50.trans (congrArg some (by kernel_rfl))
  f306 := Tryz.func51.trans (congrArg some (by kernel_rfl))
  f307 := Tryz.func52.trans (congrArg some (by kernel_rfl))
  f308 := Tryz.func53.trans (congrArg some (by kernel_rfl))
  f309 := Tryz.func54.trans (congrArg some (by kernel_rfl))
  f310 := Tryz.func55.trans (congrArg some (by kernel_rfl))
  f329 := Tryz.func81.trans (congrArg some (by kernel_rfl))
  f330 := Tryz.func82.trans (congrArg some (by kernel_rfl))
  f333 := Tryz.func80.trans (congrArg some (by kernel_rfl))
  f334 := Tryz.func83.trans (congrArg some (by kernel_rfl))
  f335 := Tryz.func84.trans (congrArg some (by kernel_rfl))
  f336 := Tryz.func85.trans (congrArg some (by kernel_rfl))
  f344 := Tryz.func111.trans (congrArg some (by kernel_rfl))
  t0 := Tryz.underlying0
  a0 := Tryz.isAgg0
  z0 := Tryz.sizeOf0
  v0 := Tryz.zeroValue0
  t3 := Tryz.underlying3
  a3 := Tryz.isAgg3
  z3 := Tryz.sizeOf3
  v3 := Tryz.zeroValue3
  t4 := Tryz.underlying4
  a4 := Tryz.isAgg4
  z4 := Tryz.sizeOf4
  v4 := Tryz.zeroValue4
  t5 := Tryz.underlying5
  a5 := Tryz.isAgg5
  z5 := Tryz.sizeOf5
  v5 := Tryz.zeroValue5
  t9 := Tryz.underlying9
  a9 := Tryz.isAgg9
  z9 := Tryz.sizeOf9
  v9 := Tryz.zeroValue9
  t31 := Tryz.underlying54
  a31 := Tryz.isAgg54
  z31 := Tryz.sizeOf54
  v31 := Tryz.zeroValue54
  t46 := Tryz.underlying90
  a46 := Tryz.isAgg90
  z46 := Tryz.sizeOf90
  v46 := Tryz.zeroValue90
  t51 := Tryz.underlying114
  a51 := Tryz.isAgg114
  z51 := Tryz.sizeOf114
  v51 := Tryz.zeroValue114
  t53 := Tryz.underlying116
  a53 := Tryz.isAgg116
  z53 := Tryz.sizeOf116
  v53 := Tryz.zeroValue116
  t131 := Tryz.underlying111
  a131 := Tryz.isAgg111
  z131 := Tryz.sizeOf111
  v131 := Tryz.zeroValue111
  t182 := Tryz.underlying105
  a182 := Tryz.isAgg105
  z182 := Tryz.sizeOf105
  v182 := Tryz.zeroValue105
  t183 := Tryz.underlying106
  a183 := Tryz.isAgg106
  z183 := Tryz.sizeOf106
  v183 := Tryz.zeroValue106
  t218 := Tryz.underlying133
  a218 := Tryz.isAgg133
  z218 := Tryz.sizeOf133
  v218 := Tryz.zeroValue133
  t222 := Tryz.underlying137
  a222 := Tryz.isAgg137
  z222 := Tryz.sizeOf137
  v222 := Tryz.zeroValue137
  t228 := Tryz.underlying161
  a228 := Tryz.isAgg161
  z228 := Tryz.sizeOf161
  v228 := Tryz.zeroValue161
  t229 := Tryz.underlying162
  a229 := Tryz.isAgg162
  z229 := Tryz.sizeOf162
  v229 := Tryz.zeroValue162 }
end Go.Proofs
