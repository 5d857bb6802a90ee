/- The shelf's numbering of Go's library over this program: which function of the shelf is which of the program's. -/
import Derived.Test.YtfedmcehkpfciaaGreatChecked
import Derived.Shelf.Sort.Plain
import Derived.Shelf.Slices.CompactI
open Go Go.Shelf
namespace Go.Proofs.YtfedmcehkpfciaaGreat.Lays
def ren189 : Ren where
  f := fun x => match x with | 189 => 57 | 125 => 99 | 257 => 98 | 128 => 142 | 129 => 143 | 294 => 133 | 295 => 134 | 296 => 135 | 297 => 136 | 298 => 137 | 299 => 138 | 216 => 139 | 300 => 140 | 301 => 141 | 328 => 174 | 329 => 175 | 330 => 176 | 331 => 177 | 332 => 178 | 215 => 179 | 343 => 197 | n => n
  t := fun x => match x with | 28 => 104 | 3 => 3 | 46 => 146 | 0 => 0 | 51 => 178 | 53 => 180 | 4 => 4 | 183 => 170 | 182 => 169 | 131 => 175 | 5 => 5 | 9 => 9 | 218 => 204 | 222 => 208 | 228 => 223 | 229 => 49 | n => n
  g := fun x => x
set_option maxRecDepth 100000 in
theorem lays189 : Lays.n189 Tryz.prog ren189 where
  mixed := by kernel_rfl
  f125 := Tryz.func99.trans (congrArg some (by kernel_rfl))
  f128 := Tryz.func142.trans (congrArg some (by kernel_rfl))
  f129 := Tryz.func143.trans (congrArg some (by kernel_rfl))
  f189 := Tryz.func57.trans (congrArg some (by kernel_rfl))
  f215 := Tryz.func179.trans (congrArg some (by kernel_rfl))
  f216 := Tryz.func139.trans (congrArg some (by kernel_rfl))
  f257 := Tryz.func98.trans (congrArg some (by kernel_rfl))
  f294 := Tryz.func133.trans (congrArg some (by kernel_rfl))
  f295 := Tryz.func134.trans (congrArg some (by kernel_rfl))
  f296 := Tryz.func135.trans (congrArg some (by kernel_rfl))
  f297 := Tryz.func136.trans (congrArg some (by kernel_rfl))
  f298 := Tryz.func137.trans (congrArg some (by kernel_rfl))
  f299 := Tryz.func138.trans (congrArg some (by kernel_rfl))
  f300 := Tryz.func140.trans (congrArg some (by kernel_rfl))
  f301 := Tryz.func141.trans (congrArg some (by kernel_rfl))
  f328 := Tryz.func174.trans (congrArg some (by kernel_rfl))
  f329 := Tryz.func175.trans (congrArg some (by kernel_rfl))
  f330 := Tryz.func176.trans (congrArg some (by kernel_rfl))
  f331 := Tryz.func177.trans (congrArg some (by kernel_rfl))
  f332 := Tryz.func178.trans (congrArg some (by kernel_rfl))
  f343 := Tryz.func197.trans (congrArg some (by kernel_rfl))
  t0 := Tryz.underlying0
  a0 := Tryz.isAgg0
  z0 := Tryz.sizeOf0
  v0 := Tryz.zeroValue0
  t3 := Tryz.underlying3
  a3 := Tryz.isAgg3
  z3 := Tryz.sizeOf3
  v3 := Tryz.zeroValue3
  t4 := Tryz.underlying4
  a4 := Tryz.isAgg4
  z4 := Tryz.sizeOf4
  v4 := Tryz.zeroValue4
  t5 := Tryz.underlying5
  a5 := Tryz.isAgg5
  z5 := Tryz.sizeOf5
  v5 := Tryz.zeroValue5
  t9 := Tryz.underlying9
  a9 := Tryz.isAgg9
  z9 := Tryz.sizeOf9
  v9 := Tryz.zeroValue9
  t28 := Tryz.underlying104
  a28 := Tryz.isAgg104
  z28 := Tryz.sizeOf104
  v28 := Tryz.zeroValue104
  t46 := Tryz.underlying146
  a46 := Tryz.isAgg146
  z46 := Tryz.sizeOf146
  v46 := Tryz.zeroValue146
  t51 := Tryz.underlying178
  a51 := Tryz.isAgg178
  z51 := Tryz.sizeOf178
  v51 := Tryz.zeroValue178
  t53 := Tryz.underlying180
  a53 := Tryz.isAgg180
  z53 := Tryz.sizeOf180
  v53 := Tryz.zeroValue180
  t131 := Tryz.underlying175
  a131 := Tryz.isAgg175
  z131 := Tryz.sizeOf175
  v131 := Tryz.zeroValue175
  t182 := Tryz.underlying169
  a182 := Tryz.isAgg169
  z182 := Tryz.sizeOf169
  v182 := Tryz.zeroValue169
  t183 := Tryz.underlying170
  a183 := Tryz.isAgg170
  z183 := Tryz.sizeOf170
  v183 := Tryz.zeroValue170
  t218 := Tryz.underlying204
  a218 := Tryz.isAgg204
  z218 := Tryz.sizeOf204
  v218 := Tryz.zeroValue204
  t222 := Tryz.underlying208
  a222 := Tryz.isAgg208
  z222 := Tryz.sizeOf208
  v222 := Tryz.zeroValue208
  t228 := Tryz.underlying223
  a228 := Tryz.isAgg223
  z228 := Tryz.sizeOf223
  v228 := Tryz.zeroValue223
  t229 := Tryz.underlying49
  a229 := Tryz.isAgg49
  z229 := Tryz.sizeOf49
  v229 := Tryz.zeroValue49
def renS20 : Ren where
  f := fun x => match x with | 20 => 58 | n => n
  t := fun x => match x with | 22 => 104 | 3 => 3 | 4 => 4 | 0 => 0 | n => n
  g := fun x => x
set_option maxRecDepth 100000 in
theorem laysS20 : Lays2.n20 Tryz.prog renS20 where
  mixed := by kernel_rfl
  f20 := Tryz.func58.trans (congrArg some (by kernel_rfl))
  t0 := Tryz.underlying0
  a0 := Tryz.isAgg0
  z0 := Tryz.sizeOf0
  v0 := Tryz.zeroValue0
  t3 := Tryz.underlying3
  a3 := Tryz.isAgg3
  z3 := Tryz.sizeOf3
  v3 := Tryz.zeroValue3
  t4 := Tryz.underlying4
  a4 := Tryz.isAgg4
  z4 := Tryz.sizeOf4
  v4 := Tryz.zeroValue4
  t22 := Tryz.underlying104
  a22 := Tryz.isAgg104
  z22 := Tryz.sizeOf104
  v22 := Tryz.zeroValue104
  i3 := Eq.refl (some (some (Value.int IntKind.i64 0), 1, 8))
end Go.Proofs.YtfedmcehkpfciaaGreat.Lays
