/- The shelf's numbering of Go's library over this program: which function of the shelf is which of the program's. -/
import Derived.Test.YtpfggghpkdnppaaChecked
import Derived.Shelf.Sort.Plain
open Go Go.Shelf
namespace Go.Proofs.Ytpfggghpkdnppaa.Lays
def ren190 : Ren where
  f := fun x => match x with | 190 => 41 | 125 => 64 | 258 => 63 | 128 => 78 | 129 => 79 | 302 => 69 | 303 => 70 | 304 => 71 | 305 => 72 | 306 => 73 | 307 => 74 | 308 => 75 | 309 => 76 | 310 => 77 | 333 => 81 | 329 => 82 | 330 => 83 | 334 => 84 | 335 => 85 | 336 => 86 | 344 => 87 | n => n
  t := fun x => match x with | 31 => 52 | 9 => 9 | 3 => 3 | 46 => 76 | 0 => 0 | 51 => 90 | 53 => 92 | 4 => 4 | 183 => 83 | 182 => 82 | 131 => 60 | 5 => 5 | 218 => 93 | 222 => 97 | 228 => 99 | 229 => 100 | n => n
  g := fun x => x
theorem lays190 : Lays.n190 Try.prog ren190 where
  mixed := by kernel_rfl
  f125 := Try.func64.trans (congrArg some (by kernel_rfl))
  f128 := Try.func78.trans (congrArg some (by kernel_rfl))
  f129 := Try.func79.trans (congrArg some (by kernel_rfl))
  f190 := Try.func41.trans (congrArg some (by kernel_rfl))
  f258 := Try.func63.trans (congrArg some (by kernel_rfl))
  f302 := Try.func69.trans (congrArg some (by kernel_rfl))
  f303 := Try.func70.trans (congrArg some (by kernel_rfl))
  f304 := Try.func71.trans (congrArg some (by kernel_rfl))
  f305 := Try.func72.trans (congrArg some (by kernel_rfl))
  f306 := Try.func73.trans (congrArg some (by kernel_rfl))
  f307 := Try.func74.trans (congrArg some (by kernel_rfl))
  f308 := Try.func75.trans (congrArg some (by kernel_rfl))
  f309 := Try.func76.trans (congrArg some (by kernel_rfl))
  f310 := Try.func77.trans (congrArg some (by kernel_rfl))
  f329 := Try.func82.trans (congrArg some (by kernel_rfl))
  f330 := Try.func83.trans (congrArg some (by kernel_rfl))
  f333 := Try.func81.trans (congrArg some (by kernel_rfl))
  f334 := Try.func84.trans (congrArg some (by kernel_rfl))
  f335 := Try.func85.trans (congrArg some (by kernel_rfl))
  f336 := Try.func86.trans (congrArg some (by kernel_rfl))
  f344 := Try.func87.trans (congrArg some (by kernel_rfl))
  t0 := Try.underlying0
  a0 := Try.isAgg0
  z0 := Try.sizeOf0
  v0 := Try.zeroValue0
  t3 := Try.underlying3
  a3 := Try.isAgg3
  z3 := Try.sizeOf3
  v3 := Try.zeroValue3
  t4 := Try.underlying4
  a4 := Try.isAgg4
  z4 := Try.sizeOf4
  v4 := Try.zeroValue4
  t5 := Try.underlying5
  a5 := Try.isAgg5
  z5 := Try.sizeOf5
  v5 := Try.zeroValue5
  t9 := Try.underlying9
  a9 := Try.isAgg9
  z9 := Try.sizeOf9
  v9 := Try.zeroValue9
  t31 := Try.underlying52
  a31 := Try.isAgg52
  z31 := Try.sizeOf52
  v31 := Try.zeroValue52
  t46 := Try.underlying76
  a46 := Try.isAgg76
  z46 := Try.sizeOf76
  v46 := Try.zeroValue76
  t51 := Try.underlying90
  a51 := Try.isAgg90
  z51 := Try.sizeOf90
  v51 := Try.zeroValue90
  t53 := Try.underlying92
  a53 := Try.isAgg92
  z53 := Try.sizeOf92
  v53 := Try.zeroValue92
  t131 := Try.underlying60
  a131 := Try.isAgg60
  z131 := Try.sizeOf60
  v131 := Try.zeroValue60
  t182 := Try.underlying82
  a182 := Try.isAgg82
  z182 := Try.sizeOf82
  v182 := Try.zeroValue82
  t183 := Try.underlying83
  a183 := Try.isAgg83
  z183 := Try.sizeOf83
  v183 := Try.zeroValue83
  t218 := Try.underlying93
  a218 := Try.isAgg93
  z218 := Try.sizeOf93
  v218 := Try.zeroValue93
  t222 := Try.underlying97
  a222 := Try.isAgg97
  z222 := Try.sizeOf97
  v222 := Try.zeroValue97
  t228 := Try.underlying99
  a228 := Try.isAgg99
  z228 := Try.sizeOf99
  v228 := Try.zeroValue99
  t229 := Try.underlying100
  a229 := Try.isAgg100
  z229 := Try.sizeOf100
  v229 := Try.zeroValue100
def ren194 : Ren where
  f := fun x => match x with | 194 => 42 | n => n
  t := fun x => match x with | 31 => 52 | 9 => 9 | 3 => 3 | 4 => 4 | 0 => 0 | n => n
  g := fun x => x
theorem lays194 : Lays.n194 Try.prog ren194 where
  mixed := by kernel_rfl
  f194 := Try.func42.trans (congrArg some (by kernel_rfl))
  t0 := Try.underlying0
  a0 := Try.isAgg0
  z0 := Try.sizeOf0
  v0 := Try.zeroValue0
  t3 := Try.underlying3
  a3 := Try.isAgg3
  z3 := Try.sizeOf3
  v3 := Try.zeroValue3
  t4 := Try.underlying4
  a4 := Try.isAgg4
  z4 := Try.sizeOf4
  v4 := Try.zeroValue4
  t9 := Try.underlying9
  a9 := Try.isAgg9
  z9 := Try.sizeOf9
  v9 := Try.zeroValue9
  t31 := Try.underlying52
  a31 := Try.isAgg52
  z31 := Try.sizeOf52
  v31 := Try.zeroValue52
end Go.Proofs.Ytpfggghpkdnppaa.Lays
