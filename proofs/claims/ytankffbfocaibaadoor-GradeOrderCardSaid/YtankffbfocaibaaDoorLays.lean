/- The shelf's numbering of Go's library over this program: which function of the shelf is which of the program's. -/
import Derived.Test.YtankffbfocaibaaDoorChecked
import Derived.Shelf.Sort.Plain
open Go Go.Shelf
namespace Go.Proofs.YtankffbfocaibaaDoor.Lays
def ren189 : Ren where
  f := fun x => match x with | 189 => 74 | 125 => 81 | 257 => 80 | 128 => 94 | 129 => 95 | 294 => 85 | 295 => 86 | 296 => 87 | 297 => 88 | 298 => 89 | 299 => 90 | 216 => 91 | 300 => 92 | 301 => 93 | 328 => 100 | 329 => 101 | 330 => 102 | 331 => 103 | 332 => 104 | 215 => 105 | 343 => 110 | n => n
  t := fun x => match x with | 28 => 34 | 3 => 3 | 46 => 108 | 0 => 0 | 51 => 119 | 53 => 121 | 4 => 4 | 183 => 113 | 182 => 112 | 131 => 101 | 5 => 5 | 9 => 9 | 218 => 127 | 222 => 131 | 228 => 138 | 229 => 85 | n => n
  g := fun x => x
theorem lays189 : Lays.n189 Tryd.prog ren189 where
  mixed := by kernel_rfl
  f125 := Tryd.func81.trans (congrArg some (by kernel_rfl))
  f128 := Tryd.func94.trans (congrArg some (by kernel_rfl))
  f129 := Tryd.func95.trans (congrArg some (by kernel_rfl))
  f189 := Tryd.func74.trans (congrArg some (by kernel_rfl))
  f215 := Tryd.func105.trans (congrArg some (by kernel_rfl))
  f216 := Tryd.func91.trans (congrArg some (by kernel_rfl))
  f257 := Tryd.func80.trans (congrArg some (by kernel_rfl))
  f294 := Tryd.func85.trans (congrArg some (by kernel_rfl))
  f295 := Tryd.func86.trans (congrArg some (by kernel_rfl))
  f296 := Tryd.func87.trans (congrArg some (by kernel_rfl))
  f297 := Tryd.func88.trans (congrArg some (by kernel_rfl))
  f298 := Tryd.func89.trans (congrArg some (by kernel_rfl))
  f299 := Tryd.func90.trans (congrArg some (by kernel_rfl))
  f300 := Tryd.func92.trans (congrArg some (by kernel_rfl))
  f301 := Tryd.func93.trans (congrArg some (by kernel_rfl))
  f328 := Tryd.func100.trans (congrArg some (by kernel_rfl))
  f329 := Tryd.func101.trans (congrArg some (by kernel_rfl))
  f330 := Tryd.func102.trans (congrArg some (by kernel_rfl))
  f331 := Tryd.func103.trans (congrArg some (by kernel_rfl))
  f332 := Tryd.func104.trans (congrArg some (by kernel_rfl))
  f343 := Tryd.func110.trans (congrArg some (by kernel_rfl))
  t0 := Tryd.underlying0
  a0 := Tryd.isAgg0
  z0 := Tryd.sizeOf0
  v0 := Tryd.zeroValue0
  t3 := Tryd.underlying3
  a3 := Tryd.isAgg3
  z3 := Tryd.sizeOf3
  v3 := Tryd.zeroValue3
  t4 := Tryd.underlying4
  a4 := Tryd.isAgg4
  z4 := Tryd.sizeOf4
  v4 := Tryd.zeroValue4
  t5 := Tryd.underlying5
  a5 := Tryd.isAgg5
  z5 := Tryd.sizeOf5
  v5 := Tryd.zeroValue5
  t9 := Tryd.underlying9
  a9 := Tryd.isAgg9
  z9 := Tryd.sizeOf9
  v9 := Tryd.zeroValue9
  t28 := Tryd.underlying34
  a28 := Tryd.isAgg34
  z28 := Tryd.sizeOf34
  v28 := Tryd.zeroValue34
  t46 := Tryd.underlying108
  a46 := Tryd.isAgg108
  z46 := Tryd.sizeOf108
  v46 := Tryd.zeroValue108
  t51 := Tryd.underlying119
  a51 := Tryd.isAgg119
  z51 := Tryd.sizeOf119
  v51 := Tryd.zeroValue119
  t53 := Tryd.underlying121
  a53 := Tryd.isAgg121
  z53 := Tryd.sizeOf121
  v53 := Tryd.zeroValue121
  t131 := Tryd.underlying101
  a131 := Tryd.isAgg101
  z131 := Tryd.sizeOf101
  v131 := Tryd.zeroValue101
  t182 := Tryd.underlying112
  a182 := Tryd.isAgg112
  z182 := Tryd.sizeOf112
  v182 := Tryd.zeroValue112
  t183 := Tryd.underlying113
  a183 := Tryd.isAgg113
  z183 := Tryd.sizeOf113
  v183 := Tryd.zeroValue113
  t218 := Tryd.underlying127
  a218 := Tryd.isAgg127
  z218 := Tryd.sizeOf127
  v218 := Tryd.zeroValue127
  t222 := Tryd.underlying131
  a222 := Tryd.isAgg131
  z222 := Tryd.sizeOf131
  v222 := Tryd.zeroValue131
  t228 := Tryd.underlying138
  a228 := Tryd.isAgg138
  z228 := Tryd.sizeOf138
  v228 := Tryd.zeroValue138
  t229 := Tryd.underlying85
  a229 := Tryd.isAgg85
  z229 := Tryd.sizeOf85
  v229 := Tryd.zeroValue85
end Go.Proofs.YtankffbfocaibaaDoor.Lays
