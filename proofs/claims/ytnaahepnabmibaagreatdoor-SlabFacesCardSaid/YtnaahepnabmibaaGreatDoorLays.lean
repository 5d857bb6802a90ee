/- The shelf's numbering of Go's library over this program: which function of the shelf is which of the program's. -/
import Derived.Test.YtnaahepnabmibaaGreatDoorChecked
import Derived.Shelf.Sort.Plain
open Go Go.Shelf
namespace Go.Proofs.YtnaahepnabmibaaGreatDoor.Lays
def ren189 : Ren where
  f := fun x => match x with | 189 => 75 | 125 => 105 | 257 => 104 | 128 => 129 | 129 => 130 | 294 => 120 | 295 => 121 | 296 => 122 | 297 => 123 | 298 => 124 | 299 => 125 | 216 => 126 | 300 => 127 | 301 => 128 | 328 => 143 | 329 => 144 | 330 => 145 | 331 => 146 | 332 => 147 | 215 => 88 | 343 => 155 | n => n
  t := fun x => match x with | 28 => 33 | 3 => 3 | 46 => 135 | 0 => 0 | 51 => 163 | 53 => 137 | 4 => 4 | 183 => 156 | 182 => 155 | 131 => 160 | 5 => 5 | 9 => 9 | 218 => 174 | 222 => 95 | 228 => 185 | 229 => 144 | n => n
  g := fun x => x
theorem lays189 : Lays.n189 Tryz.prog ren189 where
  mixed := by kernel_rfl
  f125 := Tryz.func105.trans (congrArg some (by kernel_rfl))
  f128 := Tryz.func129.trans (congrArg some (by kernel_rfl))
  f129 := Tryz.func130.trans (congrArg some (by kernel_rfl))
  f189 := Tryz.func75.trans (congrArg some (by kernel_rfl))
  f215 := Tryz.func88.trans (congrArg some (by kernel_rfl))
  f216 := Tryz.func126.trans (congrArg some (by kernel_rfl))
  f257 := Tryz.func104.trans (congrArg some (by kernel_rfl))
  f294 := Tryz.func120.trans (congrArg some (by kernel_rfl))
  f295 := Tryz.func121.trans (congrArg some (by kernel_rfl))
  f296 := Tryz.func122.trans (congrArg some (by kernel_rfl))
  f297 := Tryz.func123.trans (congrArg some (by kernel_rfl))
  f298 := Tryz.func124.trans (congrArg some (by kernel_rfl))
  f299 := Tryz.func125.trans (congrArg some (by kernel_rfl))
  f300 := Tryz.func127.trans (congrArg some (by kernel_rfl))
  f301 := Tryz.func128.trans (congrArg some (by kernel_rfl))
  f328 := Tryz.func143.trans (congrArg some (by kernel_rfl))
  f329 := Tryz.func144.trans (congrArg some (by kernel_rfl))
  f330 := Tryz.func145.trans (congrArg some (by kernel_rfl))
  f331 := Tryz.func146.trans (congrArg some (by kernel_rfl))
  f332 := Tryz.func147.trans (congrArg some (by kernel_rfl))
  f343 := Tryz.func155.trans (congrArg some (by kernel_rfl))
  t0 := Tryz.underlying0
  a0 := Tryz.isAgg0
  z0 := Tryz.sizeOf0
  v0 := Tryz.zeroValue0
  t3 := Tryz.underlying3
  a3 := Tryz.isAgg3
  z3 := Tryz.sizeOf3
  v3 := Tryz.zeroValue3
  t4 := Tryz.underlying4
  a4 := Tryz.isAgg4
  z4 := Tryz.sizeOf4
  v4 := Tryz.zeroValue4
  t5 := Tryz.underlying5
  a5 := Tryz.isAgg5
  z5 := Tryz.sizeOf5
  v5 := Tryz.zeroValue5
  t9 := Tryz.underlying9
  a9 := Tryz.isAgg9
  z9 := Tryz.sizeOf9
  v9 := Tryz.zeroValue9
  t28 := Tryz.underlying33
  a28 := Tryz.isAgg33
  z28 := Tryz.sizeOf33
  v28 := Tryz.zeroValue33
  t46 := Tryz.underlying135
  a46 := Tryz.isAgg135
  z46 := Tryz.sizeOf135
  v46 := Tryz.zeroValue135
  t51 := Tryz.underlying163
  a51 := Tryz.isAgg163
  z51 := Tryz.sizeOf163
  v51 := Tryz.zeroValue163
  t53 := Tryz.underlying137
  a53 := Tryz.isAgg137
  z53 := Tryz.sizeOf137
  v53 := Tryz.zeroValue137
  t131 := Tryz.underlying160
  a131 := Tryz.isAgg160
  z131 := Tryz.sizeOf160
  v131 := Tryz.zeroValue160
  t182 := Tryz.underlying155
  a182 := Tryz.isAgg155
  z182 := Tryz.sizeOf155
  v182 := Tryz.zeroValue155
  t183 := Tryz.underlying156
  a183 := Tryz.isAgg156
  z183 := Tryz.sizeOf156
  v183 := Tryz.zeroValue156
  t218 := Tryz.underlying174
  a218 := Tryz.isAgg174
  z218 := Tryz.sizeOf174
  v218 := Tryz.zeroValue174
  t222 := Tryz.underlying95
  a222 := Tryz.isAgg95
  z222 := Tryz.sizeOf95
  v222 := Tryz.zeroValue95
  t228 := Tryz.underlying185
  a228 := Tryz.isAgg185
  z228 := Tryz.sizeOf185
  v228 := Tryz.zeroValue185
  t229 := Tryz.underlying144
  a229 := Tryz.isAgg144
  z229 := Tryz.sizeOf144
  v229 := Tryz.zeroValue144
end Go.Proofs.YtnaahepnabmibaaGreatDoor.Lays
