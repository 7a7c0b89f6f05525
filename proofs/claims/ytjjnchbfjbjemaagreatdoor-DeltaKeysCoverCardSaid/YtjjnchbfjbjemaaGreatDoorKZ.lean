/-
  THE LAYER: what the walks of the functions go by.
-/
import Derived.Shelf.Small.Wraps
import Derived.Shelf.LaysM
import Derived.Shelf.Strconv.Itoa3
import Derived.Test.YtjjnchbfjbjemaaGreatDoorProg
set_option linter.unusedSimpArgs false
set_option linter.unusedVariables false

namespace Go.Proofs
open Go.Shelf Go.RowKit Go.Sort Go.Lib
def Tryz.lays129_ren : Go.Shelf.Ren := ⟨fun | 129 => 83 | n => n, fun | 53 => 146 | 3 => 3 | 4 => 4 | 46 => 115 | 5 => 5 | 9 => 9 | n => n, fun | n => n⟩
theorem Tryz.lays129 : Go.Proofs.Lays.n129 Tryz.prog Tryz.lays129_ren := {
  mixed := by kernel_rfl
  f129 := Tryz.func83.trans (congrArg some (by kernel_rfl))
  t3 := Tryz.underlying3
  a3 := Tryz.isAgg3
  z3 := Tryz.sizeOf3
  v3 := Tryz.zeroValue3
  t4 := Tryz.underlying4
  a4 := Tryz.isAgg4
  z4 := Tryz.sizeOf4
  v4 := Tryz.zeroValue4
  t5 := Tryz.underlying5
  a5 := Tryz.isAgg5
  z5 := Tryz.sizeOf5
  v5 := Tryz.zeroValue5
  t9 := Tryz.underlying9
  a9 := Tryz.isAgg9
  z9 := Tryz.sizeOf9
  v9 := Tryz.zeroValue9
  t46 := Tryz.underlying115
  a46 := Tryz.isAgg115
  z46 := Tryz.sizeOf115
  v46 := Tryz.zeroValue115
  t53 := Tryz.underlying146
  a53 := Tryz.isAgg146
  z53 := Tryz.sizeOf146
  v53 := Tryz.zeroValue146 }
theorem Tryz.bits_Len64 (x : Int) (w : World) (h0 : 0 ≤ x) (h1 : x ≤ 18446744073709551615) :
    Calls Tryz.prog 83 #[.int .u64 x] w fun e w' => e = .returned (.int .i64 (Lib.bitLen x.toNat)) ∧ w' = w := Any.bits_Len64 Tryz.lays129 x w h0 h1
def Tryz.laysM171_ren : Go.Shelf.Ren := ⟨fun | 171 => 28 | 243 => 60 | 246 => 87 | 283 => 100 | 284 => 101 | 285 => 102 | 286 => 103 | 129 => 83 | 317 => 108 | 318 => 109 | 319 => 110 | 320 => 111 | 337 => 114 | 338 => 115 | n => n, fun | 3 => 3 | 9 => 9 | 2 => 2 | 4 => 4 | 171 => 163 | 0 => 0 | 53 => 146 | 37 => 77 | 5 => 5 | 173 => 165 | 212 => 173 | 51 => 144 | 20 => 20 | 213 => 174 | 46 => 115 | 232 => 176 | 233 => 177 | n => n, fun | 17 => 0 | 18 => 2 | 19 => 3 | n => n⟩
theorem Tryz.laysM171 : Go.Proofs.LaysM.n171 Tryz.prog Tryz.laysM171_ren := {
  mixed := by kernel_rfl
  f129 := Tryz.func83.trans (congrArg some (by kernel_rfl))
  f171 := Tryz.func28.trans (congrArg some (by kernel_rfl))
  f243 := Tryz.func60.trans (congrArg some (by kernel_rfl))
  f246 := Tryz.func87.trans (congrArg some (by kernel_rfl))
  f283 := Tryz.func100.trans (congrArg some (by kernel_rfl))
  f284 := Tryz.func101.trans (congrArg some (by kernel_rfl))
  f285 := Tryz.func102.trans (congrArg some (by kernel_rfl))
  f286 := Tryz.func103.trans (congrArg some (by kernel_rfl))
  f317 := Tryz.func108.trans (congrArg some (by kernel_rfl))
  f318 := Tryz.func109.trans (congrArg some (by kernel_rfl))
  f319 := Tryz.func110.trans (congrArg some (by kernel_rfl))
  f320 := Tryz.func111.trans (congrArg some (by kernel_rfl))
  f337 := Tryz.func114.trans (congrArg some (by kernel_rfl))
  f338 := Tryz.func115.trans (congrArg some (by kernel_rfl))
  t0 := Tryz.underlying0
  a0 := Tryz.isAgg0
  z0 := Tryz.sizeOf0
  v0 := Tryz.zeroValue0
  t2 := Tryz.underlying2
  a2 := Tryz.isAgg2
  z2 := Tryz.sizeOf2
  v2 := Tryz.zeroValue2
  t3 := Tryz.underlying3
  a3 := Tryz.isAgg3
  z3 := Tryz.sizeOf3
  v3 := Tryz.zeroValue3
  t4 := Tryz.underlying4
  a4 := Tryz.isAgg4
  z4 := Tryz.sizeOf4
  v4 := Tryz.zeroValue4
  t5 := Tryz.underlying5
  a5 := Tryz.isAgg5
  z5 := Tryz.sizeOf5
  v5 := Tryz.zeroValue5
  t9 := Tryz.underlying9
  a9 := Tryz.isAgg9
  z9 := Tryz.sizeOf9
  v9 := Tryz.zeroValue9
  t20 := Tryz.underlying20
  a20 := Tryz.isAgg20
  z20 := Tryz.sizeOf20
  v20 := Tryz.zeroValue20
  t37 := Tryz.underlying77
  a37 := Tryz.isAgg77
  z37 := Tryz.sizeOf77
  v37 := Tryz.zeroValue77
  t46 := Tryz.underlying115
  a46 := Tryz.isAgg115
  z46 := Tryz.sizeOf115
  v46 := Tryz.zeroValue115
  t51 := Tryz.underlying144
  a51 := Tryz.isAgg144
  z51 := Tryz.sizeOf144
  v51 := Tryz.zeroValue144
  t53 := Tryz.underlying146
  a53 := Tryz.isAgg146
  z53 := Tryz.sizeOf146
  v53 := Tryz.zeroValue146
  t171 := Tryz.underlying163
  a171 := Tryz.isAgg163
  z171 := Tryz.sizeOf163
  v171 := Tryz.zeroValue163
  t173 := Tryz.underlying165
  a173 := Tryz.isAgg165
  z173 := Tryz.sizeOf165
  v173 := Tryz.zeroValue165
  t212 := Tryz.underlying173
  a212 := Tryz.isAgg173
  z212 := Tryz.sizeOf173
  v212 := Tryz.zeroValue173
  t213 := Tryz.underlying174
  a213 := Tryz.isAgg174
  z213 := Tryz.sizeOf174
  t232 := Tryz.underlying176
  a232 := Tryz.isAgg176
  z232 := Tryz.sizeOf176
  v232 := Tryz.zeroValue176
  t233 := Tryz.underlying177
  a233 := Tryz.isAgg177
  z233 := Tryz.sizeOf177
  v233 := Tryz.zeroValue177
  g17 := by kernel_rfl
  g18 := by kernel_rfl
  g19 := by kernel_rfl
  i0 := by kernel_rfl
  i2 := by kernel_rfl
  i3 := by kernel_rfl
  i4 := by kernel_rfl
  i5 := by kernel_rfl
  i9 := by kernel_rfl
  i20 := by kernel_rfl
  i37 := by kernel_rfl
  i46 := by kernel_rfl
  i51 := by kernel_rfl
  i53 := by kernel_rfl
  i171 := by kernel_rfl
  i173 := by kernel_rfl
  i212 := by kernel_rfl
  i232 := by kernel_rfl
  i233 := by kernel_rfl
  m17 := by kernel_rfl
  m18 := by kernel_rfl
  m19 := by kernel_rfl }
open Go.RowKit Go.Sort Go.Lib in
theorem Tryz.strconv_Itoa (n : Int) (h0 : -9223372036854775808 ≤ n) (h1 : n ≤ 9223372036854775807) (w : World) (htab : Lib.TabIs Tryz.prog w "internal/strconv.uint64pow10" .u64 Lib.pow10Tab) :
    Calls Tryz.prog 28 #[.int .i64 n] w fun e w' => e = .returned (.string ⟨(Lib.itoa n).toArray⟩) ∧ ∃ k os, w' = grow (w.drewN k) os := Any.strconv_Itoa Tryz.laysM171 n h0 h1 w htab
end Go.Proofs
