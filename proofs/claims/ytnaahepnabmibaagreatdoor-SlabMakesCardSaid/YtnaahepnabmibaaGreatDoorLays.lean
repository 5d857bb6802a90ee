/- The shelf's numbering of Go's library over this program: which function of the shelf is which of the program's. -/
import Derived.Test.YtnaahepnabmibaaGreatDoorChecked
import Derived.Shelf.Sort.Plain
import Derived.Shelf.Strconv.Itoa3
open Go Go.Shelf
namespace Go.Proofs.YtnaahepnabmibaaGreatDoor.Lays
def renM243 : Ren where
  f := fun x => match x with | 243 => 98 | 246 => 118 | 283 => 139 | 284 => 140 | 285 => 141 | 286 => 142 | 129 => 130 | 317 => 151 | 318 => 152 | 319 => 153 | 320 => 154 | 337 => 156 | 338 => 157 | n => n
  t := fun x => match x with | 3 => 3 | 9 => 9 | 2 => 2 | 4 => 4 | 171 => 170 | 0 => 0 | 53 => 137 | 37 => 119 | 5 => 5 | 173 => 172 | 212 => 183 | 51 => 163 | 20 => 20 | 213 => 184 | 46 => 135 | 232 => 187 | 233 => 188 | n => n
  g := fun x => match x with | 17 => 2 | 18 => 3 | 19 => 4 | n => n
set_option maxRecDepth 100000 in
theorem laysM243 : LaysM.n243 Tryz.prog renM243 where
  i171 := by kernel_rfl
  i212 := by kernel_rfl
  i232 := by kernel_rfl
  i233 := by kernel_rfl
  mixed := by kernel_rfl
  f129 := Tryz.func130.trans (congrArg some (by kernel_rfl))
  f243 := Tryz.func98.trans (congrArg some (by kernel_rfl))
  f246 := Tryz.func118.trans (congrArg some (by kernel_rfl))
  f283 := Tryz.func139.trans (congrArg some (by kernel_rfl))
  f284 := Tryz.func140.trans (congrArg some (by kernel_rfl))
  f285 := Tryz.func141.trans (congrArg some (by kernel_rfl))
  f286 := Tryz.func142.trans (congrArg some (by kernel_rfl))
  f317 := Tryz.func151.trans (congrArg some (by kernel_rfl))
  f318 := Tryz.func152.trans (congrArg some (by kernel_rfl))
  f319 := Tryz.func153.trans (congrArg some (by kernel_rfl))
  f320 := Tryz.func154.trans (congrArg some (by kernel_rfl))
  f337 := Tryz.func156.trans (congrArg some (by kernel_rfl))
  f338 := Tryz.func157.trans (congrArg some (by kernel_rfl))
  t0 := Tryz.underlying0
  a0 := Tryz.isAgg0
  z0 := Tryz.sizeOf0
  v0 := Tryz.zeroValue0
  t2 := Tryz.underlying2
  a2 := Tryz.isAgg2
  z2 := Tryz.sizeOf2
  v2 := Tryz.zeroValue2
  t3 := Tryz.underlying3
  a3 := Tryz.isAgg3
  z3 := Tryz.sizeOf3
  v3 := Tryz.zeroValue3
  t4 := Tryz.underlying4
  a4 := Tryz.isAgg4
  z4 := Tryz.sizeOf4
  v4 := Tryz.zeroValue4
  t5 := Tryz.underlying5
  a5 := Tryz.isAgg5
  z5 := Tryz.sizeOf5
  v5 := Tryz.zeroValue5
  t9 := Tryz.underlying9
  a9 := Tryz.isAgg9
  z9 := Tryz.sizeOf9
  v9 := Tryz.zeroValue9
  t20 := Tryz.underlying20
  a20 := Tryz.isAgg20
  z20 := Tryz.sizeOf20
  v20 := Tryz.zeroValue20
  t37 := Tryz.underlying119
  a37 := Tryz.isAgg119
  z37 := Tryz.sizeOf119
  v37 := Tryz.zeroValue119
  t46 := Tryz.underlying135
  a46 := Tryz.isAgg135
  z46 := Tryz.sizeOf135
  v46 := Tryz.zeroValue135
  t51 := Tryz.underlying163
  a51 := Tryz.isAgg163
  z51 := Tryz.sizeOf163
  v51 := Tryz.zeroValue163
  t53 := Tryz.underlying137
  a53 := Tryz.isAgg137
  z53 := Tryz.sizeOf137
  v53 := Tryz.zeroValue137
  t171 := Tryz.underlying170
  a171 := Tryz.isAgg170
  z171 := Tryz.sizeOf170
  v171 := Tryz.zeroValue170
  t173 := Tryz.underlying172
  a173 := Tryz.isAgg172
  z173 := Tryz.sizeOf172
  v173 := Tryz.zeroValue172
  t212 := Tryz.underlying183
  a212 := Tryz.isAgg183
  z212 := Tryz.sizeOf183
  v212 := Tryz.zeroValue183
  t213 := Tryz.underlying184
  a213 := Tryz.isAgg184
  z213 := Tryz.sizeOf184
  t232 := Tryz.underlying187
  a232 := Tryz.isAgg187
  z232 := Tryz.sizeOf187
  v232 := Tryz.zeroValue187
  t233 := Tryz.underlying188
  a233 := Tryz.isAgg188
  z233 := Tryz.sizeOf188
  v233 := Tryz.zeroValue188
  g17 := by kernel_rfl
  g18 := by kernel_rfl
  g19 := by kernel_rfl
  i0 := Eq.refl (some (some (Value.tuple #[]), 1, 0))
  i2 := Eq.refl (some (some (Value.int IntKind.i64 0), 1, 8))
  i3 := Eq.refl (some (some (Value.int IntKind.i64 0), 1, 8))
  i4 := Eq.refl (some (some (Value.bool false), 1, 1))
  i5 := Eq.refl (some (some (Value.int IntKind.u8 0), 1, 1))
  i9 := Eq.refl (some (some (Value.string { data := #[] }), 1, 16))
  i20 := Eq.refl (some (some Value.nilIface, 1, 16))
  i37 := Eq.refl (some (some (Value.slice none 0 0), 1, 24))
  i46 := Eq.refl (some (some (Value.int IntKind.u64 0), 1, 8))
  i51 := Eq.refl (some (some (Value.int IntKind.u32 0), 1, 4))
  i53 := Eq.refl (some (some (Value.int IntKind.u64 0), 1, 8))
  i173 := Eq.refl (some (some (Value.tuple #[Value.slice none 0 0, Value.string { data := #[] }]), 1, 0))
  m17 := Eq.refl (some (renM243.g 17))
  m18 := Eq.refl (some (renM243.g 18))
  m19 := Eq.refl (some (renM243.g 19))
end Go.Proofs.YtnaahepnabmibaaGreatDoor.Lays
