/- What functions of the program return: each contract says so of one function, for every input at which its pure function yields. -/
import Derived.Test.YtpfggghpkdnppaaPx0
import Derived.Test.YtpfggghpkdnppaaPx2
import Derived.Test.YtpfggghpkdnppaaPx3
import Derived.Test.YtpfggghpkdnppaaPx7
import Derived.Test.YtpfggghpkdnppaaPx8
import Derived.Test.YtpfggghpkdnppaaSm
namespace Go.Proofs.Ytpfggghpkdnppaa.P
open Go.RowKit Go.Proofs.YtpfggghpkdnppaaW.PrintWords Go.Proofs.YtpfggghpkdnppaaW.PrintLast Go.Proofs.YtpfggghpkdnppaaW.PrintMore
attribute [local go_sem] max2_int min2_int max_two min_two max_three min_three max_four min_four   -- for this text's walks alone
set_option linter.unusedVariables false
set_option linter.unusedSimpArgs false

open Go.Proofs.Ytpfggghpkdnppaa.Sm
def gangsawlaw49_awake.f (k : Nat)  : Option (Bool) := (some (([(⟨(⟨#[115, 97, 119]⟩ : ByteArray), 60, 5⟩ : S36), (⟨(⟨#[112, 111, 108, 105, 115, 104]⟩ : ByteArray), 30, 0⟩ : S36)] : List (S36)) : List (S36))).bind fun y196 => ((gangsawlaw49_machines.f).bind fun t200 => ((machine_Can.f k t200 (⟨#[115, 97, 119]⟩ : ByteArray)).bind fun bt203 => ((gangsawlaw49_machines.f).bind fun t207 => ((machine_Chain.f k t207 (⟨#[106]⟩ : ByteArray) y196 0 0 0).bind fun bt210 => ((gangsawlaw49_machines.f).bind fun t212 => ((machine_Load.f k t212 (([(⟨(⟨#[106]⟩ : ByteArray), y196, 0, 0, 0⟩ : S47)] : List (S47)))).bind fun bt218 => ((gangsawlaw49_machines.f).bind fun t222 => (if 0 < (t222.length : Int) then (if 1 < (y196.length : Int) then ((machine_Minutes.f k ((rd_T34 t222 0).f0) ((rd_T34 t222 0).f1) ((rd_T34 t222 0).f2) ((rd_T36 y196 1).f0) ((rd_T36 y196 1).f1) ((rd_T36 y196 1).f2) true).bind fun bt227 => (if bt203.2 = 0 then ((gangsawref49_Same.f k bt203.1 (([1, 2] : List Int))).bind fun t232 => (if t232 = true then (if bt210.2 = 0 then (if bt210.1 = 95 then (if bt218.2 = 0 then ((gangsawref49_Same.f k bt218.1 (([30, 0, 0] : List Int))).bind fun t236 => (if t236 = true then (if bt227.2 = 0 then (some (bt227.1 == 40)) else (some false)) else (some false))) else (some false)) else (some false)) else (some false)) else (some false))) else (some false))) else (none)) else (none)))))))))
def gangsawlaw49_awake.T3 : Bool × List (List Nat × List Nat) := (true, [([], []), ([], []), ([0, 1, 0], [0, 1]), ([2], [2]), ([3], [3]), ([3], [3]), ([4, 2, 0, 1, 2, 3, 4], [4]), ([5, 6, 0, 1, 2, 3, 4, 5, 6], [5])])
def gangsawlaw49_awake.B3 : List Nat := [0, 0, 3, 7, 15, 15, 31, 127]
theorem gangsawlaw49_awake.tab3 : rtab .any (opsOf Try.f9 3) = gangsawlaw49_awake.T3 := by kernel_rfl
theorem gangsawlaw49_awake.bits3 : waitsOk gangsawlaw49_awake.T3.2 gangsawlaw49_awake.B3 = true := by kernel_rfl
def gangsawlaw49_awake.T4 : Bool × List (List Nat × List Nat) := (true, [([], []), ([], []), ([1], [1]), ([0, 2, 0], [0, 2]), ([3], [3]), ([4], [4]), ([4], [4]), ([5, 3, 0, 1, 2, 3, 4, 5], [5]), ([6, 7, 0, 1, 2, 3, 4, 5, 6, 7], [6])])
def gangsawlaw49_awake.B4 : List Nat := [0, 0, 2, 7, 15, 31, 31, 63, 255]
theorem gangsawlaw49_awake.tab4 : rtab .any (opsOf Try.f9 4) = gangsawlaw49_awake.T4 := by kernel_rfl
theorem gangsawlaw49_awake.bits4 : waitsOk gangsawlaw49_awake.T4.2 gangsawlaw49_awake.B4 = true := by kernel_rfl
def gangsawlaw49_awake.T5 : Bool × List (List Nat × List Nat) := (true, [([], []), ([0], [0]), ([1], [1]), ([], []), ([3], [3]), ([4], [4]), ([5], [5]), ([2, 6, 0], [2, 6]), ([7], [7]), ([8], [8]), ([8], [8]), ([9, 7, 0, 1, 2, 3, 4, 5, 6, 7, 8, 9], [9]), ([10, 11, 0, 1, 2, 3, 4, 5, 6, 7, 8, 9, 10, 11], [10])])
def gangsawlaw49_awake.B5 : List Nat := [0, 1, 3, 0, 8, 24, 56, 127, 255, 511, 511, 1023, 4095]
theorem gangsawlaw49_awake.tab5 : rtab .any (opsOf Try.f9 5) = gangsawlaw49_awake.T5 := by kernel_rfl
theorem gangsawlaw49_awake.bits5 : waitsOk gangsawlaw49_awake.T5.2 gangsawlaw49_awake.B5 = true := by kernel_rfl
set_option maxHeartbeats 8000000 in
set_option maxRecDepth 100000 in
theorem gangsawlaw49_awake.calls (k : Nat)  (r : Bool) (w : World) (h : gangsawlaw49_awake.f k  = some r) (hr : r = true) :
  Calls Try.prog 9 #[] w fun e w' => e = .returned (.bool r) ∧ Below w.heap.size w w' := by
 have hu36 := Try.underlying36
 have hu47 := Try.underlying47
 have hu34 := Try.underlying34
 have HB := Aside0.mk (Below.refl w.heap.size w)
 have H : ((some (([(⟨(⟨#[115, 97, 119]⟩ : ByteArray), 60, 5⟩ : S36), (⟨(⟨#[112, 111, 108, 105, 115, 104]⟩ : ByteArray), 30, 0⟩ : S36)] : List (S36)) : List (S36))).bind fun y196 => ((gangsawlaw49_machines.f).bind fun t200 => ((machine_Can.f k t200 (⟨#[115, 97, 119]⟩ : ByteArray)).bind fun bt203 => ((gangsawlaw49_machines.f).bind fun t207 => ((machine_Chain.f k t207 (⟨#[106]⟩ : ByteArray) y196 0 0 0).bind fun bt210 => ((gangsawlaw49_machines.f).bind fun t212 => ((machine_Load.f k t212 (([(⟨(⟨#[106]⟩ : ByteArray), y196, 0, 0, 0⟩ : S47)] : List (S47)))).bind fun bt218 => ((gangsawlaw49_machines.f).bind fun t222 => (if 0 < (t222.length : Int) then (if 1 < (y196.length : Int) then ((machine_Minutes.f k ((rd_T34 t222 0).f0) ((rd_T34 t222 0).f1) ((rd_T34 t222 0).f2) ((rd_T36 y196 1).f0) ((rd_T36 y196 1).f1) ((rd_T36 y196 1).f2) true).bind fun bt227 => (if bt203.2 = 0 then ((gangsawref49_Same.f k bt203.1 (([1, 2] : List Int))).bind fun t232 => (if t232 = true then (if bt210.2 = 0 then (if bt210.1 = 95 then (if bt218.2 = 0 then ((gangsawref49_Same.f k bt218.1 (([30, 0, 0] : List Int))).bind fun t236 => (if t236 = true then (if bt227.2 = 0 then (some (bt227.1 == 40)) else (some false)) else (some false))) else (some false)) else (some false)) else (some false)) else (some false))) else (some false))) else (none)) else (none)))))))))) = some r := h
 clear h
 obtain ⟨y196, hy196⟩ : ∃ y_ : List (S36), y_ = (([(⟨(⟨#[115, 97, 119]⟩ : ByteArray), 60, 5⟩ : S36), (⟨(⟨#[112, 111, 108, 105, 115, 104]⟩ : ByteArray), 30, 0⟩ : S36)] : List (S36))) := ⟨_, rfl⟩
 replace H : ((gangsawlaw49_machines.f).bind fun t200 => ((machine_Can.f k t200 (⟨#[115, 97, 119]⟩ : ByteArray)).bind fun bt203 => ((gangsawlaw49_machines.f).bind fun t207 => ((machine_Chain.f k t207 (⟨#[106]⟩ : ByteArray) y196 0 0 0).bind fun bt210 => ((gangsawlaw49_machines.f).bind fun t212 => ((machine_Load.f k t212 (([(⟨(⟨#[106]⟩ : ByteArray), y196, 0, 0, 0⟩ : S47)] : List (S47)))).bind fun bt218 => ((gangsawlaw49_machines.f).bind fun t222 => (if 0 < (t222.length : Int) then (if 1 < (y196.length : Int) then ((machine_Minutes.f k ((rd_T34 t222 0).f0) ((rd_T34 t222 0).f1) ((rd_T34 t222 0).f2) ((rd_T36 y196 1).f0) ((rd_T36 y196 1).f1) ((rd_T36 y196 1).f2) true).bind fun bt227 => (if bt203.2 = 0 then ((gangsawref49_Same.f k bt203.1 (([1, 2] : List Int))).bind fun t232 => (if t232 = true then (if bt210.2 = 0 then (if bt210.1 = 95 then (if bt218.2 = 0 then ((gangsawref49_Same.f k bt218.1 (([30, 0, 0] : List Int))).bind fun t236 => (if t236 = true then (if bt227.2 = 0 then (some (bt227.1 == 40)) else (some false)) else (some false))) else (some false)) else (some false)) else (some false)) else (some false))) else (some false))) else (none)) else (none))))))))) = some r := by first | (rw [hy196]; with_reducible exact H) | (have H2_ := (Option.bind_some _ _).symm.trans H; rw [hy196]; with_reducible exact H2_) | (have H2_ := (Option.bind_some _ _).symm.trans H; with_reducible exact H2_) | with_reducible exact H | (rw [hy196]; exact H) | exact H
 have Ny196 := Aside0.mk hy196
 clear hy196
 replace H := Option.bind_eq_some_iff.mp H
 obtain ⟨t200, A10, H⟩ := H
 replace H : ((machine_Can.f k t200 (⟨#[115, 97, 119]⟩ : ByteArray)).bind fun bt203 => ((gangsawlaw49_machines.f).bind fun t207 => ((machine_Chain.f k t207 (⟨#[106]⟩ : ByteArray) y196 0 0 0).bind fun bt210 => ((gangsawlaw49_machines.f).bind fun t212 => ((machine_Load.f k t212 (([(⟨(⟨#[106]⟩ : ByteArray), y196, 0, 0, 0⟩ : S47)] : List (S47)))).bind fun bt218 => ((gangsawlaw49_machines.f).bind fun t222 => (if 0 < (t222.length : Int) then (if 1 < (y196.length : Int) then ((machine_Minutes.f k ((rd_T34 t222 0).f0) ((rd_T34 t222 0).f1) ((rd_T34 t222 0).f2) ((rd_T36 y196 1).f0) ((rd_T36 y196 1).f1) ((rd_T36 y196 1).f2) true).bind fun bt227 => (if bt203.2 = 0 then ((gangsawref49_Same.f k bt203.1 (([1, 2] : List Int))).bind fun t232 => (if t232 = true then (if bt210.2 = 0 then (if bt210.1 = 95 then (if bt218.2 = 0 then ((gangsawref49_Same.f k bt218.1 (([30, 0, 0] : List Int))).bind fun t236 => (if t236 = true then (if bt227.2 = 0 then (some (bt227.1 == 40)) else (some false)) else (some false))) else (some false)) else (some false)) else (some false)) else (some false))) else (some false))) else (none)) else (none)))))))) = some r := H
 have A1 := Aside0.mk A10
 clear A10
 replace H := Option.bind_eq_some_iff.mp H
 obtain ⟨⟨t203, t204⟩, A20, H⟩ := H
 replace H : ((gangsawlaw49_machines.f).bind fun t207 => ((machine_Chain.f k t207 (⟨#[106]⟩ : ByteArray) y196 0 0 0).bind fun bt210 => ((gangsawlaw49_machines.f).bind fun t212 => ((machine_Load.f k t212 (([(⟨(⟨#[106]⟩ : ByteArray), y196, 0, 0, 0⟩ : S47)] : List (S47)))).bind fun bt218 => ((gangsawlaw49_machines.f).bind fun t222 => (if 0 < (t222.length : Int) then (if 1 < (y196.length : Int) then ((machine_Minutes.f k ((rd_T34 t222 0).f0) ((rd_T34 t222 0).f1) ((rd_T34 t222 0).f2) ((rd_T36 y196 1).f0) ((rd_T36 y196 1).f1) ((rd_T36 y196 1).f2) true).bind fun bt227 => (if t204 = 0 then ((gangsawref49_Same.f k t203 (([1, 2] : List Int))).bind fun t232 => (if t232 = true then (if bt210.2 = 0 then (if bt210.1 = 95 then (if bt218.2 = 0 then ((gangsawref49_Same.f k bt218.1 (([30, 0, 0] : List Int))).bind fun t236 => (if t236 = true then (if bt227.2 = 0 then (some (bt227.1 == 40)) else (some false)) else (some false))) else (some false)) else (some false)) else (some false)) else (some false))) else (some false))) else (none)) else (none))))))) = some r := H
 have A2 := Aside0.mk A20
 clear A20
 replace H := Option.bind_eq_some_iff.mp H
 obtain ⟨t207, A30, H⟩ := H
 replace H : ((machine_Chain.f k t207 (⟨#[106]⟩ : ByteArray) y196 0 0 0).bind fun bt210 => ((gangsawlaw49_machines.f).bind fun t212 => ((machine_Load.f k t212 (([(⟨(⟨#[106]⟩ : ByteArray), y196, 0, 0, 0⟩ : S47)] : List (S47)))).bind fun bt218 => ((gangsawlaw49_machines.f).bind fun t222 => (if 0 < (t222.length : Int) then (if 1 < (y196.length : Int) then ((machine_Minutes.f k ((rd_T34 t222 0).f0) ((rd_T34 t222 0).f1) ((rd_T34 t222 0).f2) ((rd_T36 y196 1).f0) ((rd_T36 y196 1).f1) ((rd_T36 y196 1).f2) true).bind fun bt227 => (if t204 = 0 then ((gangsawref49_Same.f k t203 (([1, 2] : List Int))).bind fun t232 => (if t232 = true then (if bt210.2 = 0 then (if bt210.1 = 95 then (if bt218.2 = 0 then ((gangsawref49_Same.f k bt218.1 (([30, 0, 0] : List Int))).bind fun t236 => (if t236 = true then (if bt227.2 = 0 then (some (bt227.1 == 40)) else (some false)) else (some false))) else (some false)) else (some false)) else (some false)) else (some false))) else (some false))) else (none)) else (none)))))) = some r := H
 have A3 := Aside0.mk A30
 clear A30
 replace H := Option.bind_eq_some_iff.mp H
 obtain ⟨⟨t210, t211⟩, A40, H⟩ := H
 replace H : ((gangsawlaw49_machines.f).bind fun t212 => ((machine_Load.f k t212 (([(⟨(⟨#[106]⟩ : ByteArray), y196, 0, 0, 0⟩ : S47)] : List (S47)))).bind fun bt218 => ((gangsawlaw49_machines.f).bind fun t222 => (if 0 < (t222.length : Int) then (if 1 < (y196.length : Int) then ((machine_Minutes.f k ((rd_T34 t222 0).f0) ((rd_T34 t222 0).f1) ((rd_T34 t222 0).f2) ((rd_T36 y196 1).f0) ((rd_T36 y196 1).f1) ((rd_T36 y196 1).f2) true).bind fun bt227 => (if t204 = 0 then ((gangsawref49_Same.f k t203 (([1, 2] : List Int))).bind fun t232 => (if t232 = true then (if t211 = 0 then (if t210 = 95 then (if bt218.2 = 0 then ((gangsawref49_Same.f k bt218.1 (([30, 0, 0] : List Int))).bind fun t236 => (if t236 = true then (if bt227.2 = 0 then (some (bt227.1 == 40)) else (some false)) else (some false))) else (some false)) else (some false)) else (some false)) else (some false))) else (some false))) else (none)) else (none))))) = some r := H
 have A4 := Aside0.mk A40
 clear A40
 replace H := Option.bind_eq_some_iff.mp H
 obtain ⟨t212, A50, H⟩ := H
 replace H : ((machine_Load.f k t212 (([(⟨(⟨#[106]⟩ : ByteArray), y196, 0, 0, 0⟩ : S47)] : List (S47)))).bind fun bt218 => ((gangsawlaw49_machines.f).bind fun t222 => (if 0 < (t222.length : Int) then (if 1 < (y196.length : Int) then ((machine_Minutes.f k ((rd_T34 t222 0).f0) ((rd_T34 t222 0).f1) ((rd_T34 t222 0).f2) ((rd_T36 y196 1).f0) ((rd_T36 y196 1).f1) ((rd_T36 y196 1).f2) true).bind fun bt227 => (if t204 = 0 then ((gangsawref49_Same.f k t203 (([1, 2] : List Int))).bind fun t232 => (if t232 = true then (if t211 = 0 then (if t210 = 95 then (if bt218.2 = 0 then ((gangsawref49_Same.f k bt218.1 (([30, 0, 0] : List Int))).bind fun t236 => (if t236 = true then (if bt227.2 = 0 then (some (bt227.1 == 40)) else (some false)) else (some false))) else (some false)) else (some false)) else (some false)) else (some false))) else (some false))) else (none)) else (none)))) = some r := H
 have A5 := Aside0.mk A50
 clear A50
 obtain ⟨y215, hy215⟩ : ∃ y_ : List (S47), y_ = (([(⟨(⟨#[106]⟩ : ByteArray), y196, 0, 0, 0⟩ : S47)] : List (S47))) := ⟨_, rfl⟩
 replace H : ((machine_Load.f k t212 y215).bind fun bt218 => ((gangsawlaw49_machines.f).bind fun t222 => (if 0 < (t222.length : Int) then (if 1 < (y196.length : Int) then ((machine_Minutes.f k ((rd_T34 t222 0).f0) ((rd_T34 t222 0).f1) ((rd_T34 t222 0).f2) ((rd_T36 y196 1).f0) ((rd_T36 y196 1).f1) ((rd_T36 y196 1).f2) true).bind fun bt227 => (if t204 = 0 then ((gangsawref49_Same.f k t203 (([1, 2] : List Int))).bind fun t232 => (if t232 = true then (if t211 = 0 then (if t210 = 95 then (if bt218.2 = 0 then ((gangsawref49_Same.f k bt218.1 (([30, 0, 0] : List Int))).bind fun t236 => (if t236 = true then (if bt227.2 = 0 then (some (bt227.1 == 40)) else (some false)) else (some false))) else (some false)) else (some false)) else (some false)) else (some false))) else (some false))) else (none)) else (none)))) = some r := by first | (rw [hy215]; with_reducible exact H) | (have H2_ := (Option.bind_some _ _).symm.trans H; rw [hy215]; with_reducible exact H2_) | (have H2_ := (Option.bind_some _ _).symm.trans H; with_reducible exact H2_) | with_reducible exact H | (rw [hy215]; exact H) | exact H
 have Ny215 := Aside0.mk hy215
 clear hy215
 replace H := Option.bind_eq_some_iff.mp H
 obtain ⟨⟨t218, t219⟩, A60, H⟩ := H
 replace H : ((gangsawlaw49_machines.f).bind fun t222 => (if 0 < (t222.length : Int) then (if 1 < (y196.length : Int) then ((machine_Minutes.f k ((rd_T34 t222 0).f0) ((rd_T34 t222 0).f1) ((rd_T34 t222 0).f2) ((rd_T36 y196 1).f0) ((rd_T36 y196 1).f1) ((rd_T36 y196 1).f2) true).bind fun bt227 => (if t204 = 0 then ((gangsawref49_Same.f k t203 (([1, 2] : List Int))).bind fun t232 => (if t232 = true then (if t211 = 0 then (if t210 = 95 then (if t219 = 0 then ((gangsawref49_Same.f k t218 (([30, 0, 0] : List Int))).bind fun t236 => (if t236 = true then (if bt227.2 = 0 then (some (bt227.1 == 40)) else (some false)) else (some false))) else (some false)) else (some false)) else (some false)) else (some false))) else (some false))) else (none)) else (none))) = some r := H
 have A6 := Aside0.mk A60
 clear A60
 replace H := Option.bind_eq_some_iff.mp H
 obtain ⟨t222, A70, H⟩ := H
 replace H : (if 0 < (t222.length : Int) then (if 1 < (y196.length : Int) then ((machine_Minutes.f k ((rd_T34 t222 0).f0) ((rd_T34 t222 0).f1) ((rd_T34 t222 0).f2) ((rd_T36 y196 1).f0) ((rd_T36 y196 1).f1) ((rd_T36 y196 1).f2) true).bind fun bt227 => (if t204 = 0 then ((gangsawref49_Same.f k t203 (([1, 2] : List Int))).bind fun t232 => (if t232 = true then (if t211 = 0 then (if t210 = 95 then (if t219 = 0 then ((gangsawref49_Same.f k t218 (([30, 0, 0] : List Int))).bind fun t236 => (if t236 = true then (if bt227.2 = 0 then (some (bt227.1 == 40)) else (some false)) else (some false))) else (some false)) else (some false)) else (some false)) else (some false))) else (some false))) else (none)) else (none)) = some r := H
 have A7 := Aside0.mk A70
 clear A70
 by_cases c8 : 0 < (t222.length : Int)
 ·rw [if_pos c8] at H
  have c8b0 : decide (0 < (t222.length : Int)) = true := decide_eq_true c8
  have c8b1 : decide (0 < t222.length) = true := decide_eq_true (by omega)
  clear c8
  by_cases c9 : 1 < (y196.length : Int)
  ·rw [if_pos c9] at H
   have c9b0 : decide (1 < (y196.length : Int)) = true := decide_eq_true c9
   have c9b1 : decide (1 < y196.length) = true := decide_eq_true (by omega)
   clear c9
   replace H := Option.bind_eq_some_iff.mp H
   obtain ⟨⟨t227, t228⟩, A100, H⟩ := H
   replace H : (if t204 = 0 then ((gangsawref49_Same.f k t203 (([1, 2] : List Int))).bind fun t232 => (if t232 = true then (if t211 = 0 then (if t210 = 95 then (if t219 = 0 then ((gangsawref49_Same.f k t218 (([30, 0, 0] : List Int))).bind fun t236 => (if t236 = true then (if t228 = 0 then (some (t227 == 40)) else (some false)) else (some false))) else (some false)) else (some false)) else (some false)) else (some false))) else (some false)) = some r := H
   have A10 := Aside0.mk A100
   clear A100
   by_cases c11 : t204 = 0
   ·rw [if_pos c11] at H
    have c11b0 : (t204 == 0) = true := beq_iff_eq.mpr c11
    have c11b1 : (t204 != 0) = false := bne_eq_false_iff_eq.mpr c11
    clear c11
    obtain ⟨y229, hy229⟩ : ∃ y_ : List Int, y_ = (([1, 2] : List Int)) := ⟨_, rfl⟩
    replace H : ((gangsawref49_Same.f k t203 y229).bind fun t232 => (if t232 = true then (if t211 = 0 then (if t210 = 95 then (if t219 = 0 then ((gangsawref49_Same.f k t218 (([30, 0, 0] : List Int))).bind fun t236 => (if t236 = true then (if t228 = 0 then (some (t227 == 40)) else (some false)) else (some false))) else (some false)) else (some false)) else (some false)) else (some false))) = some r := by first | (rw [hy229]; with_reducible exact H) | (have H2_ := (Option.bind_some _ _).symm.trans H; rw [hy229]; with_reducible exact H2_) | (have H2_ := (Option.bind_some _ _).symm.trans H; with_reducible exact H2_) | with_reducible exact H | (rw [hy229]; exact H) | exact H
    have Ny229 := Aside0.mk hy229
    clear hy229
    replace H := Option.bind_eq_some_iff.mp H
    obtain ⟨t232, A120, H⟩ := H
    replace H : (if t232 = true then (if t211 = 0 then (if t210 = 95 then (if t219 = 0 then ((gangsawref49_Same.f k t218 (([30, 0, 0] : List Int))).bind fun t236 => (if t236 = true then (if t228 = 0 then (some (t227 == 40)) else (some false)) else (some false))) else (some false)) else (some false)) else (some false)) else (some false)) = some r := H
    have A12 := Aside0.mk A120
    clear A120
    by_cases c13 : t232 = true
    ·subst c13
     have H1 : (if t211 = 0 then (if t210 = 95 then (if t219 = 0 then ((gangsawref49_Same.f k t218 (([30, 0, 0] : List Int))).bind fun t236 => (if t236 = true then (if t228 = 0 then (some (t227 == 40)) else (some false)) else (some false))) else (some false)) else (some false)) else (some false)) = some r := by rw [if_pos rfl] at H; exact H
     clear H
     have H := H1
     clear H1
     by_cases c14 : t211 = 0
     ·rw [if_pos c14] at H
      have c14b0 : (t211 == 0) = true := beq_iff_eq.mpr c14
      have c14b1 : (t211 != 0) = false := bne_eq_false_iff_eq.mpr c14
      clear c14
      by_cases c15 : t210 = 95
      ·rw [if_pos c15] at H
       have c15b0 : (t210 == 95) = true := beq_iff_eq.mpr c15
       have c15b1 : (t210 != 95) = false := bne_eq_false_iff_eq.mpr c15
       clear c15
       by_cases c16 : t219 = 0
       ·rw [if_pos c16] at H
        have c16b0 : (t219 == 0) = true := beq_iff_eq.mpr c16
        have c16b1 : (t219 != 0) = false := bne_eq_false_iff_eq.mpr c16
        clear c16
        obtain ⟨y233, hy233⟩ : ∃ y_ : List Int, y_ = (([30, 0, 0] : List Int)) := ⟨_, rfl⟩
        replace H : ((gangsawref49_Same.f k t218 y233).bind fun t236 => (if t236 = true then (if t228 = 0 then (some (t227 == 40)) else (some false)) else (some false))) = some r := by first | (rw [hy233]; with_reducible exact H) | (have H2_ := (Option.bind_some _ _).symm.trans H; rw [hy233]; with_reducible exact H2_) | (have H2_ := (Option.bind_some _ _).symm.trans H; with_reducible exact H2_) | with_reducible exact H | (rw [hy233]; exact H) | exact H
        have Ny233 := Aside0.mk hy233
        clear hy233
        replace H := Option.bind_eq_some_iff.mp H
        obtain ⟨t236, A170, H⟩ := H
        replace H : (if t236 = true then (if t228 = 0 then (some (t227 == 40)) else (some false)) else (some false)) = some r := H
        have A17 := Aside0.mk A170
        clear A170
        by_cases c18 : t236 = true
        ·subst c18
         have H1 : (if t228 = 0 then (some (t227 == 40)) else (some false)) = some r := by rw [if_pos rfl] at H; exact H
         clear H
         have H := H1
         clear H1
         by_cases c19 : t228 = 0
         ·rw [if_pos c19] at H
          have c19b0 : (t228 == 0) = true := beq_iff_eq.mpr c19
          have c19b1 : (t228 != 0) = false := bne_eq_false_iff_eq.mpr c19
          clear c19
          obtain rfl := Option.some.inj H
          simp only [Option.some.injEq, Prod.mk.injEq] at H
          obtain ⟨rfl⟩ := H
          go_enter Try.func9, Try.ntmps9
          try go_wp2_with (first | ((with_reducible refine gate_dst (N := 12) rfl ?_); (try (refine gate_guard (by rfl) ?_; dsimp only)); refine Kd.R_lit k36 _ 36 ?hg (N := 12) ?hd (xs := ([(⟨(⟨#[115, 97, 119]⟩ : ByteArray), 60, 5⟩ : S36), (⟨(⟨#[112, 111, 108, 105, 115, 104]⟩ : ByteArray), 30, 0⟩ : S36)] : List (S36))) (inner := [.string (⟨#[115, 97, 119]⟩ : ByteArray), .int .i64 60, .int .i64 5, .string (⟨#[112, 111, 108, 105, 115, 104]⟩ : ByteArray), .int .i64 30, .int .i64 0]) (ok := fun _ => True) (okp := fun _ => True) ?hr ?hp (fun _ hk => hk) trivial (Below.refl _ _) (Nat.le_refl _) (by simp) ?_; (case hd => rfl); (case hg => rfl); (case hr => first | (go_simp; done) | (go_simp; rfl)); (case hp => exact (Reps.c3 (show Kd.M k36 _ _ _ (⟨(⟨#[115, 97, 119]⟩ : ByteArray), 60, 5⟩ : S36) [.string (⟨#[115, 97, 119]⟩ : ByteArray), .int .i64 60, .int .i64 5] from (k36_mkM _ _ _ (⟨(⟨#[115, 97, 119]⟩ : ByteArray), 60, 5⟩ : S36) )) (Reps.c3 (show Kd.M k36 _ _ _ (⟨(⟨#[112, 111, 108, 105, 115, 104]⟩ : ByteArray), 30, 0⟩ : S36) [.string (⟨#[112, 111, 108, 105, 115, 104]⟩ : ByteArray), .int .i64 30, .int .i64 0] from (k36_mkM _ _ _ (⟨(⟨#[112, 111, 108, 105, 115, 104]⟩ : ByteArray), 30, 0⟩ : S36) )) (Reps.none _ _)))); intro v197 w20 ho21 hb hg_ hnew_; clear hg_ hnew_; (first | rw [← Ny196.out] at ho21 | (simp only [Int.reduceToNat] at ho21; rw [← Ny196.out] at ho21)); have n0_ := Aside0.mk (Kd.R_lower ho21 (below_size (by repeat (first | (with_reducible first | exact HB.out | apply below_alloc | apply pw_below_drewN | apply below_drew1) | exact HB.out)))); have n1_ := Aside0.mk (below_step (by repeat (first | (with_reducible first | exact HB.out | apply below_alloc | apply pw_below_drewN | apply below_drew1) | exact HB.out)) hb); clear HB; have HO198 := n0_; have HB := n1_; clear n0_ n1_; clear hb ho21; obtain ⟨Ao22, co22, eo22⟩ := Kd.R_slice HO198.out; subst eo22) | ((with_reducible refine gate_dst (N := 1) rfl ?_); (try (refine gate_guard (by rfl) ?_; dsimp only)); refine box_event ?hg (N := 1) ?hd (cs := #[.string (⟨#[]⟩ : ByteArray), .slice none 0 0, .int .i64 0, .int .i64 0, .int .i64 0]) (t := 47) ?hr ?_; (case hd => rfl); (case hg => rfl); (case hr => first | (go_simp; done) | (go_simp; rfl)); intro gb199 hg w23 hbox hb; have n0_ := Aside0.mk (Kd.R_below (by (with_reducible repeat (first | apply Kd.R_alloc | apply Kd.R_drewN | apply Kd.R_drew)); exact HO198.out) hb); have n1_ := Aside0.mk (below_step (by repeat (first | (with_reducible first | exact HB.out | apply below_alloc | apply pw_below_drewN | apply below_drew1) | exact HB.out)) hb); have n2_ := Aside0.mk (hbox); have n3_ := Aside0.mk ((by rw [hg]; exact (below_size (by repeat (first | (with_reducible first | exact HB.out | apply below_alloc | apply pw_below_drewN | apply below_drew1) | exact HB.out))) : w.heap.size ≤ gb199)); have n4_ := Aside0.mk ((by rw [hg]; exact (below_size (by repeat (first | (with_reducible first | exact HB.out | apply below_alloc | apply pw_below_drewN | apply below_drew1) | exact HB.out))) : w.heap.size ≤ gb199)); clear HO198; clear HB; have HO198 := n0_; have HB := n1_; have BK199 := n2_; have GW199 := n3_; have GE199 := n4_; clear n0_ n1_ n2_ n3_ n4_; clear hb hbox hg; have hcz24_0 : w23.cell? ⟨gb199, 0, none⟩ = some (.string (⟨#[]⟩ : ByteArray)) := (blk_cell BK199.out 0).trans rfl; have hcz24_1 : w23.cell? ⟨gb199, 1, none⟩ = some (.slice none 0 0) := (blk_cell BK199.out 1).trans rfl; have hcz24_2 : w23.cell? ⟨gb199, 2, none⟩ = some (.int .i64 0) := (blk_cell BK199.out 2).trans rfl; have hcz24_3 : w23.cell? ⟨gb199, 3, none⟩ = some (.int .i64 0) := (blk_cell BK199.out 3).trans rfl; have hcz24_4 : w23.cell? ⟨gb199, 4, none⟩ = some (.int .i64 0) := (blk_cell BK199.out 4).trans rfl; have hfz24_0 := blk_frozen BK199.out 0; have hfz24_1 := blk_frozen BK199.out 1; have hfz24_2 := blk_frozen BK199.out 2; have hfz24_3 := blk_frozen BK199.out 3; have hfz24_4 := blk_frozen BK199.out 4) | ((with_reducible refine gate_callee (f := 28) rfl ?_); refine goesL_ (some 15) rfl rfl Try.func28 (by kernel_rfl) rfl #[] rfl (by (try simp only [List.map_toArray, List.map_cons, List.map_nil]); first | done | rfl | (simp only [List.length_drop, List.length_take]; rfl)) ?_; (with_reducible refine (gangsawlaw49_machines.calls  t200 _ A1.out).mono ?_); rintro e w25 ⟨v201, rfl, ho0, hb⟩; refine ⟨_, rfl, ?_⟩; have n0_ := Aside0.mk (Kd.R_below (by (with_reducible repeat (first | apply Kd.R_alloc | apply Kd.R_drewN | apply Kd.R_drew)); exact (Kd.R_mono (Kd.R_far (p := ⟨gb199, 4, none⟩) (Kd.R_far (p := ⟨gb199, 3, none⟩) (Kd.R_far (p := ⟨gb199, 2, none⟩) (Kd.R_far (p := ⟨gb199, 1, none⟩) (Kd.R_far (p := ⟨gb199, 0, none⟩) (Kd.R_types HO198.out BK199.out (by decide)) (fun _ hk => hk.2) (.string (⟨#[106]⟩ : ByteArray))) (fun _ hk => hk.2) (.slice Ao22 y196.length co22)) (fun _ hk => hk.2) (.int .i64 0)) (fun _ hk => hk.2) (.int .i64 0)) (fun _ hk => hk.2) (.int .i64 0)) (fun _ h_ => h_.1))) hb); have n1_ := Aside0.mk (Kd.R_lower ho0 (below_size (by repeat (first | (with_reducible first | exact HB.out | apply below_alloc | apply pw_below_drewN | apply below_drew1 | refine below_set ?_ GE199.out) | exact HB.out)))); have n2_ := Aside0.mk (blk_below (g := gb199) (o := .cells #[.string (⟨#[106]⟩ : ByteArray), .slice Ao22 y196.length co22, .int .i64 0, .int .i64 0, .int .i64 0] 47 (0, 0)) (by (with_reducible repeat (first | refine blk_drewN ?_ _ | refine blk_drew ?_ | refine blk_alloc ?_ _)); refine blk_put (cs := #[.string (⟨#[106]⟩ : ByteArray), .slice Ao22 y196.length co22, .int .i64 0, .int .i64 0, .int .i64 0]) ?_ 4 _ rfl; (with_reducible repeat (first | refine blk_drewN ?_ _ | refine blk_drew ?_ | refine blk_alloc ?_ _)); refine blk_put (cs := #[.string (⟨#[106]⟩ : ByteArray), .slice Ao22 y196.length co22, .int .i64 0, .int .i64 0, .int .i64 0]) ?_ 3 _ rfl; (with_reducible repeat (first | refine blk_drewN ?_ _ | refine blk_drew ?_ | refine blk_alloc ?_ _)); refine blk_put (cs := #[.string (⟨#[106]⟩ : ByteArray), .slice Ao22 y196.length co22, .int .i64 0, .int .i64 0, .int .i64 0]) ?_ 2 _ rfl; (with_reducible repeat (first | refine blk_drewN ?_ _ | refine blk_drew ?_ | refine blk_alloc ?_ _)); refine blk_put (cs := #[.string (⟨#[106]⟩ : ByteArray), .slice none 0 0, .int .i64 0, .int .i64 0, .int .i64 0]) ?_ 1 _ rfl; (with_reducible repeat (first | refine blk_drewN ?_ _ | refine blk_drew ?_ | refine blk_alloc ?_ _)); refine blk_put (cs := #[.string (⟨#[]⟩ : ByteArray), .slice none 0 0, .int .i64 0, .int .i64 0, .int .i64 0]) ?_ 0 _ rfl; (with_reducible repeat (first | refine blk_drewN ?_ _ | refine blk_drew ?_ | refine blk_alloc ?_ _)); exact BK199.out) hb); have n3_ := Aside0.mk (below_step (by repeat (first | (with_reducible first | exact HB.out | apply below_alloc | apply pw_below_drewN | apply below_drew1 | refine below_set ?_ GE199.out) | exact HB.out)) hb); clear HO198; clear BK199; clear HB; have HO198 := n0_; have HO202 := n1_; have BK199 := n2_; have HB := n3_; clear n0_ n1_ n2_ n3_; (try clear hb); (try clear hb2); (try clear hk); (try clear hi); (try clear ho0); obtain ⟨Ao26, co26, eo26⟩ := Kd.R_slice HO202.out; subst eo26) | ((with_reducible refine gate_callee (f := 11) rfl ?_); refine goesL_ (some 16) rfl rfl Try.func11 (by kernel_rfl) rfl #[.slice Ao26 t200.length co26, .string (⟨#[115, 97, 119]⟩ : ByteArray)] rfl (by (try simp only [List.map_toArray, List.map_cons, List.map_nil]); first | done | rfl | (simp only [List.length_drop, List.length_take]; rfl)) ?_; (with_reducible refine (machine_Can.calls k _ _ t200 (⟨#[115, 97, 119]⟩ : ByteArray) t203 t204 _ ?side1 ?side2 A2.out).mono ?_); (case side1 => repeat (first | exact (Kd.R_reads' HO202.out).2.2 | (with_reducible refine Kd.C_alloc ?_ _) | (with_reducible refine Kd.C_drewN ?_ _) | (with_reducible refine Kd.C_drew ?_))); (case side2 => exact (Kd.R_reads' HO202.out).2.1); rintro e w27 ⟨v205, rfl, ho0, hb⟩; refine ⟨_, rfl, ?_⟩; have n0_ := Aside0.mk (Kd.R_below (by (with_reducible repeat (first | apply Kd.R_alloc | apply Kd.R_drewN | apply Kd.R_drew)); exact HO198.out) hb); have n1_ := Aside0.mk (Kd.R_below (by (with_reducible repeat (first | apply Kd.R_alloc | apply Kd.R_drewN | apply Kd.R_drew)); exact HO202.out) hb); have n2_ := Aside0.mk (Kd.R_lower ho0 (below_size (by repeat (first | (with_reducible first | exact HB.out | apply below_alloc | apply pw_below_drewN | apply below_drew1 | refine below_set ?_ GE199.out) | exact HB.out)))); have n3_ := Aside0.mk (blk_below (g := gb199) (o := .cells #[.string (⟨#[106]⟩ : ByteArray), .slice Ao22 y196.length co22, .int .i64 0, .int .i64 0, .int .i64 0] 47 (0, 0)) (by (with_reducible repeat (first | refine blk_drewN ?_ _ | refine blk_drew ?_ | refine blk_alloc ?_ _)); exact BK199.out) hb); have n4_ := Aside0.mk (below_step (by repeat (first | (with_reducible first | exact HB.out | apply below_alloc | apply pw_below_drewN | apply below_drew1 | refine below_set ?_ GE199.out) | exact HB.out)) hb); clear HO198; clear HO202; clear BK199; clear HB; have HO198 := n0_; have HO202 := n1_; have HO206 := n2_; have BK199 := n3_; have HB := n4_; clear n0_ n1_ n2_ n3_ n4_; (try clear hb); (try clear hb2); (try clear hk); (try clear hi); (try clear ho0)))
          have n0_ := Aside0.mk (Kd.R_drew HO198.out)
          have n1_ := Aside0.mk (Kd.R_drew HO202.out)
          have n2_ := Aside0.mk (Kd.R_drew HO206.out)
          have n3_ := Aside0.mk (blk_drew BK199.out)
          have n4_ := Aside0.mk (below_drew1 HB.out)
          clear HO198
          clear HO202
          clear HO206
          clear BK199
          clear HB
          have HO198 := n0_
          have HO202 := n1_
          have HO206 := n2_
          have BK199 := n3_
          have HB := n4_
          clear n0_ n1_ n2_ n3_ n4_
          refine start_ (n := 8) (S := fun w' => w'.cell? ⟨gb199, 0, none⟩ = some (.string (⟨#[106]⟩ : ByteArray)) ∧ w'.cell? ⟨gb199, 1, none⟩ = some (.slice Ao22 y196.length co22) ∧ w'.cell? ⟨gb199, 2, none⟩ = some (.int .i64 0) ∧ w'.cell? ⟨gb199, 3, none⟩ = some (.int .i64 0) ∧ w'.cell? ⟨gb199, 4, none⟩ = some (.int .i64 0)) (ds := []) #[false, false, false, false, false, false, false, false] (by kernel_rfl) rfl rfl ⟨(blk_cell BK199.out 0).trans rfl, (blk_cell BK199.out 1).trans rfl, (blk_cell BK199.out 2).trans rfl, (blk_cell BK199.out 3).trans rfl, (blk_cell BK199.out 4).trans rfl⟩ (fun hHeld => ?_); refine with_tabW gangsawlaw49_awake.tab3 gangsawlaw49_awake.bits3 (fun HT_ HW_ => ?_)
          generalize w27.drew = w28 at HO198 HO202 HO206 BK199 HB hHeld ⊢
          refine take_ (i := 1) (N := some 21) (v := ?_) (a' := ?_) #[false, true, false, false, false, false, false, false] rfl rfl (take_ofW HT_.out HW_.out (by kernel_rfl)) (fun _ _ _ h => h) (Or.inl ⟨by rfl, ?_⟩) hHeld ?_ ?_
          rotate_left
          ·rintro w' ⟨s0, s1, s2, s3, s4⟩
           go_simp
           with_reducible rfl
          rotate_left
          ·simp only [Act.put, List.setIfInBounds_toArray, List.set_cons_zero, List.set_cons_succ, i64_w, i32_w]
           rfl
          refine one_ (i := 0) (N := some 20) #[true, true, false, false, false, false, false, false] rfl rfl (one_of HT_.out (by kernel_rfl)) (by decide) (fun K hK => ?_)
          refine goes_ Try.func28 (by kernel_rfl) rfl #[] (by rfl) rfl rfl (by (try simp only [List.map_toArray, List.map_cons, List.map_nil]); first | done | rfl | (simp only [List.length_drop, List.length_take]; rfl)) ?_
          with_reducible refine (gangsawlaw49_machines.calls  t207 _ A3.out).mono ?_
          rintro e w29 ⟨v208, rfl, ho0, hb⟩
          refine ⟨_, rfl, ?_⟩
          have n0_ := Aside0.mk (Kd.R_below (by (with_reducible repeat (first | apply Kd.R_alloc | apply Kd.R_drewN | apply Kd.R_drew)); exact HO198.out) hb)
          have n1_ := Aside0.mk (Kd.R_elder' (by (with_reducible repeat (first | apply Kd.R_alloc | apply Kd.R_drewN | apply Kd.R_drew)); exact HO202.out) (Kd.R_base ho0) hb)
          have n2_ := Aside0.mk (Kd.R_below (by (with_reducible repeat (first | apply Kd.R_alloc | apply Kd.R_drewN | apply Kd.R_drew)); exact HO206.out) hb)
          have n3_ := Aside0.mk (Kd.R_lower (Kd.R_new' ho0 (Kd.R_lt (by (with_reducible repeat (first | apply Kd.R_alloc | apply Kd.R_drewN | apply Kd.R_drew)); exact HO202.out))) (below_size (by repeat (first | (with_reducible first | exact HB.out | apply below_alloc | apply pw_below_drewN | apply below_drew1 | refine below_set ?_ GE199.out) | exact HB.out))))
          have n4_ := Aside0.mk (blk_below (g := gb199) (o := .cells #[.string (⟨#[106]⟩ : ByteArray), .slice Ao22 y196.length co22, .int .i64 0, .int .i64 0, .int .i64 0] 47 (0, 0)) (by (with_reducible repeat (first | refine blk_drewN ?_ _ | refine blk_drew ?_ | refine blk_alloc ?_ _)); exact BK199.out) hb)
          have n5_ := Aside0.mk (below_step (by repeat (first | (with_reducible first | exact HB.out | apply below_alloc | apply pw_below_drewN | apply below_drew1 | refine below_set ?_ GE199.out) | exact HB.out)) hb)
          clear HO198
          clear HO202
          clear HO206
          clear BK199
          clear HB
          have HO198 := n0_
          have HO202 := n1_
          have HO206 := n2_
          have HO209 := n3_
          have BK199 := n4_
          have HB := n5_
          clear n0_ n1_ n2_ n3_ n4_ n5_
          (try clear hb)
          (try clear hb2)
          (try clear hk)
          (try clear hi)
          (try clear ho0)
          obtain ⟨Ao30, co30, eo30⟩ := Kd.R_slice HO209.out
          (first | subst eo30 | (injection eo30 with f1_ f2_ f3_; have f4_ := f1_.symm; have f5_ := f3_.symm; clear f1_ f2_ f3_; subst f4_; subst f5_))
          refine hK.out _ _ ⟨(blk_cell BK199.out 0).trans rfl, (blk_cell BK199.out 1).trans rfl, (blk_cell BK199.out 2).trans rfl, (blk_cell BK199.out 3).trans rfl, (blk_cell BK199.out 4).trans rfl⟩ (fun hHeld => ?_)
          clear hK K
          refine norm_ (a' := ?_) ?_ ?_
          rotate_left
          ·show Act.put _ (some 20) _ = _
           simp only [Act.put, List.setIfInBounds_toArray, List.set_cons_zero, List.set_cons_succ, i64_w, i32_w]
           rfl
          refine one_ (i := 2) (N := some 22) #[true, true, true, false, false, false, false, false] rfl rfl (one_of HT_.out (by kernel_rfl)) (by decide) (fun K hK => ?_)
          refine goes_ Try.func20 (by kernel_rfl) rfl #[.slice Ao30 t207.length co30, .agg #[.string (⟨#[106]⟩ : ByteArray), .slice Ao22 y196.length co22, .int .i64 0, .int .i64 0, .int .i64 0]] (by rfl) rfl rfl (by (try simp only [List.map_toArray, List.map_cons, List.map_nil]); first | done | rfl | (simp only [List.length_drop, List.length_take]; rfl)) ?_
          with_reducible refine (machine_Chain.calls k _ _ t207 (⟨#[106]⟩ : ByteArray) (fun k_ => some k_ = (.slice Ao22 y196.length co22 : Value).ownBlock) _ _ y196 0 0 0 t210 t211 _ ?side1 ?side2 ?side3 A4.out).mono ?_
          (case side1 => repeat (first | exact (Kd.R_reads' HO209.out).2.2 | (with_reducible refine Kd.C_alloc ?_ _) | (with_reducible refine Kd.C_drewN ?_ _) | (with_reducible refine Kd.C_drew ?_)))
          (case side2 => exact (Kd.R_reads' HO209.out).2.1)
          (case side3 => exact Kd.R_V (Kd.R_tight rfl (Kd.R_types (Kd.R_apart' (Kd.R_apart' (Kd.R_apart' (HO198.out) (Kd.R_typed HO202.out) (by decide)) (Kd.R_typed HO206.out) (by decide)) (Kd.R_typed HO209.out) (by decide)) BK199.out (by decide))))
          rintro e w31 ⟨rfl, hb⟩
          refine ⟨_, rfl, ?_⟩
          have n0_ := Aside0.mk (Kd.R_below (by (with_reducible repeat (first | apply Kd.R_alloc | apply Kd.R_drewN | apply Kd.R_drew)); exact HO198.out) hb)
          have n1_ := Aside0.mk (Kd.R_below (by (with_reducible repeat (first | apply Kd.R_alloc | apply Kd.R_drewN | apply Kd.R_drew)); exact HO202.out) hb)
          have n2_ := Aside0.mk (Kd.R_below (by (with_reducible repeat (first | apply Kd.R_alloc | apply Kd.R_drewN | apply Kd.R_drew)); exact HO206.out) hb)
          have n3_ := Aside0.mk (Kd.R_below (by (with_reducible repeat (first | apply Kd.R_alloc | apply Kd.R_drewN | apply Kd.R_drew)); exact HO209.out) hb)
          have n4_ := Aside0.mk (blk_below (g := gb199) (o := .cells #[.string (⟨#[106]⟩ : ByteArray), .slice Ao22 y196.length co22, .int .i64 0, .int .i64 0, .int .i64 0] 47 (0, 0)) (by (with_reducible repeat (first | refine blk_drewN ?_ _ | refine blk_drew ?_ | refine blk_alloc ?_ _)); exact BK199.out) hb)
          have n5_ := Aside0.mk (below_step (by repeat (first | (with_reducible first | exact HB.out | apply below_alloc | apply pw_below_drewN | apply below_drew1 | refine below_set ?_ GE199.out) | exact HB.out)) hb)
          clear HO198
          clear HO202
          clear HO206
          clear HO209
          clear BK199
          clear HB
          have HO198 := n0_
          have HO202 := n1_
          have HO206 := n2_
          have HO209 := n3_
          have BK199 := n4_
          have HB := n5_
          clear n0_ n1_ n2_ n3_ n4_ n5_
          (try clear hb)
          (try clear hb2)
          (try clear hk)
          (try clear hi)
          refine hK.out _ _ ⟨(blk_cell BK199.out 0).trans rfl, (blk_cell BK199.out 1).trans rfl, (blk_cell BK199.out 2).trans rfl, (blk_cell BK199.out 3).trans rfl, (blk_cell BK199.out 4).trans rfl⟩ (fun hHeld => ?_)
          clear hK K
          refine norm_ (a' := ?_) ?_ ?_
          rotate_left
          ·show Act.put _ (some 22) _ = _
           simp only [Act.put, List.setIfInBounds_toArray, List.set_cons_zero, List.set_cons_succ, i64_w, i32_w]
           rfl
          refine pure_ (i := 3) (N := some 19) (v := ?_) (a' := ?_) #[true, true, true, true, false, false, false, false] rfl rfl (any_of HT_.out (by kernel_rfl)) (fun _ _ _ h => h) (Or.inl ⟨by rfl, ?_⟩) ?_ ?_
          rotate_left
          ·intro w'
           go_simp
           with_reducible rfl
          rotate_left
          ·simp only [Act.put, List.setIfInBounds_toArray, List.set_cons_zero, List.set_cons_succ, i64_w, i32_w]
           rfl
          refine pure_ (i := 4) (N := some 23) (v := ?_) (a' := ?_) #[true, true, true, true, true, false, false, false] rfl rfl (any_of HT_.out (by kernel_rfl)) (fun _ _ _ h => h) (Or.inl ⟨by rfl, ?_⟩) ?_ ?_
          rotate_left
          ·intro w'
           go_simp
           with_reducible rfl
          rotate_left
          ·simp only [Act.put, List.setIfInBounds_toArray, List.set_cons_zero, List.set_cons_succ, i64_w, i32_w]
           rfl
          refine pure_ (i := 5) (N := some 24) (v := ?_) (a' := ?_) #[true, true, true, true, true, true, false, false] rfl rfl (any_of HT_.out (by kernel_rfl)) (fun _ _ _ h => h) (Or.inl ⟨by rfl, ?_⟩) ?_ ?_
          rotate_left
          ·intro w'
           go_simp
           with_reducible rfl
          rotate_left
          ·simp only [Act.put, List.setIfInBounds_toArray, List.set_cons_zero, List.set_cons_succ, i64_w, i32_w]
           rfl
          refine pure_ (i := 6) (N := some 4) (v := ?_) (a' := ?_) #[true, true, true, true, true, true, true, false] rfl rfl (any_of HT_.out (by kernel_rfl)) (fun _ _ _ h => h) (Or.inl ⟨by rfl, ?_⟩) ?_ ?_
          rotate_left
          ·intro w'
           go_simp
           with_reducible rfl
          rotate_left
          ·simp only [Act.put, List.setIfInBounds_toArray, List.set_cons_zero, List.set_cons_succ, i64_w, i32_w]
           rfl
          refine pure_ (i := 7) (N := some 5) (v := ?_) (a' := ?_) #[true, true, true, true, true, true, true, true] rfl rfl (any_of HT_.out (by kernel_rfl)) (fun _ _ _ h => h) (Or.inl ⟨by rfl, ?_⟩) ?_ ?_
          rotate_left
          ·intro w'
           go_simp
           with_reducible rfl
          rotate_left
          ·simp only [Act.put, List.setIfInBounds_toArray, List.set_cons_zero, List.set_cons_succ, i64_w, i32_w]
           rfl
          refine done_ (done_of HT_.out (by kernel_rfl)) ?_
          try go_wp2
          have n0_ := Aside0.mk (Kd.R_drew HO198.out)
          have n1_ := Aside0.mk (Kd.R_drew (show Kd.R k34 34 w31 w.heap.size (fun k_ => some k_ ≠ (.slice Ao30 t207.length co30 : Value).ownBlock) (.slice Ao26 t200.length co26) t200 from by (with_reducible repeat (first | apply Kd.R_alloc | apply Kd.R_drewN | apply Kd.R_drew)); exact Kd.R_mono HO202.out (fun _ hk => hk.2)))
          have n2_ := Aside0.mk (Kd.R_drew HO206.out)
          have n3_ := Aside0.mk (Kd.R_drew (show Kd.R k34 34 w31 w.heap.size (fun k_ => some k_ ≠ (.slice Ao26 t200.length co26 : Value).ownBlock) (.slice Ao30 t207.length co30) t207 from by (with_reducible repeat (first | apply Kd.R_alloc | apply Kd.R_drewN | apply Kd.R_drew)); exact Kd.R_mono HO209.out (fun _ hk => hk.2)))
          have n4_ := Aside0.mk (blk_drew BK199.out)
          have n5_ := Aside0.mk (below_drew1 HB.out)
          clear HO198
          clear HO202
          clear HO206
          clear HO209
          clear BK199
          clear HB
          have HO198 := n0_
          have HO202 := n1_
          have HO206 := n2_
          have HO209 := n3_
          have BK199 := n4_
          have HB := n5_
          clear n0_ n1_ n2_ n3_ n4_ n5_
          refine start_ (n := 9) (S := fun w' => w'.cell? ⟨gb199, 0, none⟩ = some (.string (⟨#[106]⟩ : ByteArray)) ∧ w'.cell? ⟨gb199, 1, none⟩ = some (.slice Ao22 y196.length co22) ∧ w'.cell? ⟨gb199, 2, none⟩ = some (.int .i64 0) ∧ w'.cell? ⟨gb199, 3, none⟩ = some (.int .i64 0) ∧ w'.cell? ⟨gb199, 4, none⟩ = some (.int .i64 0)) (ds := []) #[false, false, false, false, false, false, false, false, false] (by kernel_rfl) rfl rfl ⟨(blk_cell BK199.out 0).trans rfl, (blk_cell BK199.out 1).trans rfl, (blk_cell BK199.out 2).trans rfl, (blk_cell BK199.out 3).trans rfl, (blk_cell BK199.out 4).trans rfl⟩ (fun hHeld => ?_); refine with_tabW gangsawlaw49_awake.tab4 gangsawlaw49_awake.bits4 (fun HT_ HW_ => ?_)
          generalize w31.drew = w32 at HO198 HO202 HO206 HO209 BK199 HB hHeld ⊢
          refine take_ (i := 1) (N := some 27) (v := ?_) (a' := ?_) #[false, true, false, false, false, false, false, false, false] rfl rfl (take_ofW HT_.out HW_.out (by kernel_rfl)) (fun _ _ _ h => h) (Or.inl ⟨by rfl, ?_⟩) hHeld ?_ ?_
          rotate_left
          ·rintro w' ⟨s0, s1, s2, s3, s4⟩
           go_simp
           with_reducible rfl
          rotate_left
          ·simp only [Act.put, List.setIfInBounds_toArray, List.set_cons_zero, List.set_cons_succ, i64_w, i32_w]
           rfl
          refine join_ (σ := Value × Value) 6 #[true, true, true, false, false, false, false, false, false] (fun s_ => [(26, s_.1), (28, s_.2)]) (fun s_ w' => (w'.cell? ⟨gb199, 0, none⟩ = some (.string (⟨#[106]⟩ : ByteArray)) ∧ w'.cell? ⟨gb199, 1, none⟩ = some (.slice Ao22 y196.length co22) ∧ w'.cell? ⟨gb199, 2, none⟩ = some (.int .i64 0) ∧ w'.cell? ⟨gb199, 3, none⟩ = some (.int .i64 0) ∧ w'.cell? ⟨gb199, 4, none⟩ = some (.int .i64 0)) ∧ (Kd.R k34 34 w' w.heap.size (fun k_ => some k_ ≠ (.slice Ao30 t207.length co30 : Value).ownBlock ∧ some k_ ≠ (s_.1 : Value).ownBlock) (.slice Ao26 t200.length co26) t200) ∧ (Kd.R (Kd.int .i64) 3 w' w.heap.size (fun _ => True) v205 t203) ∧ (Kd.R k34 34 w' w.heap.size (fun k_ => some k_ ≠ (.slice Ao26 t200.length co26 : Value).ownBlock ∧ some k_ ≠ (s_.1 : Value).ownBlock) (.slice Ao30 t207.length co30) t207) ∧ (Kd.R k34 34 w' w.heap.size (fun k_ => some k_ ≠ (.slice Ao26 t200.length co26 : Value).ownBlock ∧ some k_ ≠ (.slice Ao30 t207.length co30 : Value).ownBlock) s_.1 t212) ∧ (Kd.N k47 47 w' w.heap.size (fun k_ => some k_ ≠ (.slice Ao26 t200.length co26 : Value).ownBlock ∧ some k_ ≠ (v205 : Value).ownBlock ∧ some k_ ≠ (.slice Ao30 t207.length co30 : Value).ownBlock ∧ some k_ ≠ (s_.1 : Value).ownBlock ∧ k_ ≠ gb199) s_.2 y215) ∧ (Kd.C k36 w' Ao22 y196.length y196) ∧ (w'.heap[gb199]? = some (.cells #[.string (⟨#[106]⟩ : ByteArray), .slice Ao22 y196.length co22, .int .i64 0, .int .i64 0, .int .i64 0] 47 (0, 0))) ∧ (Below w.heap.size w w')) ?_ ?_
          rotate_left
          ·intro hCont
           refine two_ (i := 0) (j := 2) (Ni := some 26) (Nj := some 28) #[true, true, false, false, false, false, false, false, false] #[false, true, true, false, false, false, false, false, false] rfl rfl rfl rfl (two_of HT_.out (by kernel_rfl)) (by decide) (by decide) (fun K hK => ?_) (fun K hK => ?_)
           ·skip
            refine goes_ Try.func28 (by kernel_rfl) rfl #[] (by rfl) rfl rfl (by (try simp only [List.map_toArray, List.map_cons, List.map_nil]); first | done | rfl | (simp only [List.length_drop, List.length_take]; rfl)) ?_
            with_reducible refine (gangsawlaw49_machines.calls  t212 _ A5.out).mono ?_
            rintro e w33 ⟨v213, rfl, ho0, hb⟩
            refine ⟨_, rfl, ?_⟩
            have n0_ := Aside0.mk (Kd.R_below (by (with_reducible repeat (first | apply Kd.R_alloc | apply Kd.R_drewN | apply Kd.R_drew)); exact HO198.out) hb)
            have n1_ := Aside0.mk (Kd.R_elder' (by (with_reducible repeat (first | apply Kd.R_alloc | apply Kd.R_drewN | apply Kd.R_drew)); exact HO202.out) (Kd.R_base ho0) hb)
            have n2_ := Aside0.mk (Kd.R_below (by (with_reducible repeat (first | apply Kd.R_alloc | apply Kd.R_drewN | apply Kd.R_drew)); exact HO206.out) hb)
            have n3_ := Aside0.mk (Kd.R_elder' (by (with_reducible repeat (first | apply Kd.R_alloc | apply Kd.R_drewN | apply Kd.R_drew)); exact HO209.out) (Kd.R_base ho0) hb)
            have n4_ := Aside0.mk (Kd.R_lower (Kd.R_new' (Kd.R_new' ho0 (Kd.R_lt (by (with_reducible repeat (first | apply Kd.R_alloc | apply Kd.R_drewN | apply Kd.R_drew)); exact HO202.out))) (Kd.R_lt (by (with_reducible repeat (first | apply Kd.R_alloc | apply Kd.R_drewN | apply Kd.R_drew)); exact HO209.out))) (below_size (by repeat (first | (with_reducible first | exact HB.out | apply below_alloc | apply pw_below_drewN | apply below_drew1 | refine below_set ?_ GE199.out) | exact HB.out))))
            have n5_ := Aside0.mk (blk_below (g := gb199) (o := .cells #[.string (⟨#[106]⟩ : ByteArray), .slice Ao22 y196.length co22, .int .i64 0, .int .i64 0, .int .i64 0] 47 (0, 0)) (by (with_reducible repeat (first | refine blk_drewN ?_ _ | refine blk_drew ?_ | refine blk_alloc ?_ _)); exact BK199.out) hb)
            have n6_ := Aside0.mk (below_step (by repeat (first | (with_reducible first | exact HB.out | apply below_alloc | apply pw_below_drewN | apply below_drew1 | refine below_set ?_ GE199.out) | exact HB.out)) hb)
            clear HO198
            clear HO202
            clear HO206
            clear HO209
            clear BK199
            clear HB
            have HO198 := n0_
            have HO202 := n1_
            have HO206 := n2_
            have HO209 := n3_
            have HO214 := n4_
            have BK199 := n5_
            have HB := n6_
            clear n0_ n1_ n2_ n3_ n4_ n5_ n6_
            (try clear hb)
            (try clear hb2)
            (try clear hk)
            (try clear hi)
            (try clear ho0)
            refine hK.out _ _ ⟨(blk_cell BK199.out 0).trans rfl, (blk_cell BK199.out 1).trans rfl, (blk_cell BK199.out 2).trans rfl, (blk_cell BK199.out 3).trans rfl, (blk_cell BK199.out 4).trans rfl⟩ (fun hHeld => ?_)
            clear hK K
            refine norm_ (a' := ?_) ?_ ?_
            rotate_left
            ·show Act.put _ (some 26) _ = _
             simp only [Act.put, List.setIfInBounds_toArray, List.set_cons_zero, List.set_cons_succ, i64_w, i32_w]
             rfl
            refine one_ (i := 2) (N := some 28) #[true, true, true, false, false, false, false, false, false] rfl rfl (one_of HT_.out (by kernel_rfl)) (by decide) (fun K hK => ?_)
            refine Kd.N_lit_step k47 _ 47 ?hg (N' := 28) ?hd (xs := ([(⟨(⟨#[106]⟩ : ByteArray), y196, 0, 0, 0⟩ : S47)] : List (S47))) (inner := [.string (⟨#[106]⟩ : ByteArray), .slice Ao22 y196.length co22, .int .i64 0, .int .i64 0, .int .i64 0]) (ok := (fun k_ => some k_ ≠ (.slice Ao26 t200.length co26 : Value).ownBlock ∧ some k_ ≠ (v205 : Value).ownBlock ∧ some k_ ≠ (.slice Ao30 t207.length co30 : Value).ownBlock ∧ some k_ ≠ (v213 : Value).ownBlock ∧ k_ ≠ gb199)) (okp := (fun k_ => some k_ ≠ (.slice Ao26 t200.length co26 : Value).ownBlock ∧ some k_ ≠ (v205 : Value).ownBlock ∧ some k_ ≠ (.slice Ao30 t207.length co30 : Value).ownBlock ∧ some k_ ≠ (v213 : Value).ownBlock ∧ k_ ≠ gb199)) ?hr ?hp (fun _ hk => hk) ((show ∀ k_, w33.heap.size ≤ k_ → (fun k_ => some k_ ≠ (.slice Ao26 t200.length co26 : Value).ownBlock ∧ some k_ ≠ (v205 : Value).ownBlock ∧ some k_ ≠ (.slice Ao30 t207.length co30 : Value).ownBlock ∧ some k_ ≠ (v213 : Value).ownBlock ∧ k_ ≠ gb199) k_ from fun k_ hk => ⟨Kd.fresh' (Kd.R_lt (by (with_reducible repeat (first | apply Kd.R_alloc | apply Kd.R_drewN | apply Kd.R_drew)); exact HO202.out)) k_ hk, Kd.fresh' (Kd.R_lt (by (with_reducible repeat (first | apply Kd.R_alloc | apply Kd.R_drewN | apply Kd.R_drew)); exact HO206.out)) k_ hk, Kd.fresh' (Kd.R_lt (by (with_reducible repeat (first | apply Kd.R_alloc | apply Kd.R_drewN | apply Kd.R_drew)); exact HO209.out)) k_ hk, Kd.fresh' (Kd.R_lt (by (with_reducible repeat (first | apply Kd.R_alloc | apply Kd.R_drewN | apply Kd.R_drew)); exact HO214.out)) k_ hk, Kd.freshB (g := gb199) (o := .cells #[.string (⟨#[106]⟩ : ByteArray), .slice Ao22 y196.length co22, .int .i64 0, .int .i64 0, .int .i64 0] 47 (0, 0)) (by (with_reducible repeat (first | refine blk_drewN ?_ _ | refine blk_drew ?_ | refine blk_alloc ?_ _)); exact BK199.out) k_ hk⟩) _ (Nat.le_refl _)) (Below.refl _ _) (Nat.le_refl _) (by simp) ?_; (case hd => rfl); (case hg => rfl); (case hr => first | (go_simp; done) | (go_simp; rfl)); (case hp => exact (Reps.c5 (show Kd.FK k47 _ _ (⟨(⟨#[106]⟩ : ByteArray), y196, 0, 0, 0⟩ : S47) [.string (⟨#[106]⟩ : ByteArray), .slice Ao22 y196.length co22, .int .i64 0, .int .i64 0, .int .i64 0] from (k47_mkF _ _ (⟨(⟨#[106]⟩ : ByteArray), y196, 0, 0, 0⟩ : S47) (Kd.R_reads' (Kd.R_mono (ok' := (fun k_ => some k_ ≠ (.slice Ao26 t200.length co26 : Value).ownBlock ∧ some k_ ≠ (v205 : Value).ownBlock ∧ some k_ ≠ (.slice Ao30 t207.length co30 : Value).ownBlock ∧ some k_ ≠ (v213 : Value).ownBlock ∧ k_ ≠ gb199)) (Kd.R_types (Kd.R_apart' (Kd.R_apart' (Kd.R_apart' (Kd.R_apart' (HO198.out) (Kd.R_typed HO202.out) (by decide)) (Kd.R_typed HO206.out) (by decide)) (Kd.R_typed HO209.out) (by decide)) (Kd.R_typed HO214.out) (by decide)) BK199.out (by decide)) (fun k_ hk => ⟨hk.1.1.1.1.2, ⟨hk.1.1.1.2, ⟨hk.1.1.2, ⟨hk.1.2, hk.2⟩⟩⟩⟩))).2.1 (Kd.R_F (Kd.R_mono (ok' := (fun k_ => some k_ ≠ (.slice Ao26 t200.length co26 : Value).ownBlock ∧ some k_ ≠ (v205 : Value).ownBlock ∧ some k_ ≠ (.slice Ao30 t207.length co30 : Value).ownBlock ∧ some k_ ≠ (v213 : Value).ownBlock ∧ k_ ≠ gb199)) (Kd.R_types (Kd.R_apart' (Kd.R_apart' (Kd.R_apart' (Kd.R_apart' (HO198.out) (Kd.R_typed HO202.out) (by decide)) (Kd.R_typed HO206.out) (by decide)) (Kd.R_typed HO209.out) (by decide)) (Kd.R_typed HO214.out) (by decide)) BK199.out (by decide)) (fun k_ hk => ⟨hk.1.1.1.1.2, ⟨hk.1.1.1.2, ⟨hk.1.1.2, ⟨hk.1.2, hk.2⟩⟩⟩⟩))))) (Reps.none _ _)))
            intro v216 w34 ho35 hb hg_ hnew_
            clear hg_ hnew_
            (first | rw [← Ny215.out] at ho35 | (simp only [Int.reduceToNat] at ho35; rw [← Ny215.out] at ho35))
            have n0_ := Aside0.mk (Kd.R_below (by (with_reducible repeat (first | apply Kd.R_alloc | apply Kd.R_drewN | apply Kd.R_drew)); exact HO202.out) hb)
            have n1_ := Aside0.mk (Kd.R_below (by (with_reducible repeat (first | apply Kd.R_alloc | apply Kd.R_drewN | apply Kd.R_drew)); exact HO206.out) hb)
            have n2_ := Aside0.mk (Kd.R_below (by (with_reducible repeat (first | apply Kd.R_alloc | apply Kd.R_drewN | apply Kd.R_drew)); exact HO209.out) hb)
            have n3_ := Aside0.mk (Kd.R_below (by (with_reducible repeat (first | apply Kd.R_alloc | apply Kd.R_drewN | apply Kd.R_drew)); exact HO214.out) hb)
            have n4_ := Aside0.mk (Kd.N_lower ho35 (below_size (by repeat (first | (with_reducible first | exact HB.out | apply below_alloc | apply pw_below_drewN | apply below_drew1 | refine below_set ?_ GE199.out) | exact HB.out))))
            have n5_ := Aside0.mk (blk_below (g := gb199) (o := .cells #[.string (⟨#[106]⟩ : ByteArray), .slice Ao22 y196.length co22, .int .i64 0, .int .i64 0, .int .i64 0] 47 (0, 0)) (by (with_reducible repeat (first | refine blk_drewN ?_ _ | refine blk_drew ?_ | refine blk_alloc ?_ _)); exact BK199.out) hb)
            have n6_ := Aside0.mk (Kd.C_below ((Kd.R_reads' (by (with_reducible repeat (first | apply Kd.R_alloc | apply Kd.R_drewN | apply Kd.R_drew)); exact HO198.out)).2.2) hb)
            have n7_ := Aside0.mk (below_step (by repeat (first | (with_reducible first | exact HB.out | apply below_alloc | apply pw_below_drewN | apply below_drew1 | refine below_set ?_ GE199.out) | exact HB.out)) hb)
            clear HO202
            clear HO206
            clear HO209
            clear HO214
            clear BK199
            clear HB
            clear HO198
            have HO202 := n0_
            have HO206 := n1_
            have HO209 := n2_
            have HO214 := n3_
            have HO217 := n4_
            have BK199 := n5_
            have HSHO198 := n6_
            have HB := n7_
            clear n0_ n1_ n2_ n3_ n4_ n5_ n6_ n7_
            clear hb ho35
            refine hK.out _ _ ⟨(blk_cell BK199.out 0).trans rfl, (blk_cell BK199.out 1).trans rfl, (blk_cell BK199.out 2).trans rfl, (blk_cell BK199.out 3).trans rfl, (blk_cell BK199.out 4).trans rfl⟩ (fun hHeld => ?_)
            clear hK K
            refine norm_ (a' := ?_) ?_ ?_
            rotate_left
            ·show Act.put _ (some 28) _ = _
             simp only [Act.put, List.setIfInBounds_toArray, List.set_cons_zero, List.set_cons_succ, i64_w, i32_w]
             rfl
            exact norm_ (by simp only [putAll, Act.put, List.setIfInBounds_toArray, List.set_cons_zero, List.set_cons_succ]) (hCont (v213, v216) _ ⟨hHeld, (by (with_reducible repeat (first | apply Kd.R_alloc | apply Kd.R_drewN | apply Kd.R_drew)); exact HO202.out), (by (with_reducible repeat (first | apply Kd.R_alloc | apply Kd.R_drewN | apply Kd.R_drew)); exact HO206.out), (by (with_reducible repeat (first | apply Kd.R_alloc | apply Kd.R_drewN | apply Kd.R_drew)); exact HO209.out), (by (with_reducible repeat (first | apply Kd.R_alloc | apply Kd.R_drewN | apply Kd.R_drew)); exact Kd.R_mono HO214.out (fun _ hk => ⟨hk.1.2, hk.2⟩)), (by (with_reducible repeat (first | apply Kd.N_alloc | apply Kd.N_drewN | apply Kd.N_drew)); exact HO217.out), (by repeat (first | (with_reducible exact HSHO198.out) | (with_reducible refine Kd.C_alloc ?_ _) | (with_reducible refine Kd.C_drewN ?_ _) | (with_reducible refine Kd.C_drew ?_) | exact HSHO198.out)), (by (with_reducible repeat (first | refine blk_drewN ?_ _ | refine blk_drew ?_ | refine blk_alloc ?_ _)); exact BK199.out), (by repeat (first | (with_reducible first | exact HB.out | apply below_alloc | apply pw_below_drewN | apply below_drew1 | refine below_set ?_ GE199.out) | exact HB.out))⟩)
           ·skip
            refine Kd.N_lit_step k47 _ 47 ?hg (N' := 28) ?hd (xs := ([(⟨(⟨#[106]⟩ : ByteArray), y196, 0, 0, 0⟩ : S47)] : List (S47))) (inner := [.string (⟨#[106]⟩ : ByteArray), .slice Ao22 y196.length co22, .int .i64 0, .int .i64 0, .int .i64 0]) (ok := (fun k_ => some k_ ≠ (.slice Ao26 t200.length co26 : Value).ownBlock ∧ some k_ ≠ (v205 : Value).ownBlock ∧ some k_ ≠ (.slice Ao30 t207.length co30 : Value).ownBlock ∧ k_ ≠ gb199)) (okp := (fun k_ => some k_ ≠ (.slice Ao26 t200.length co26 : Value).ownBlock ∧ some k_ ≠ (v205 : Value).ownBlock ∧ some k_ ≠ (.slice Ao30 t207.length co30 : Value).ownBlock ∧ k_ ≠ gb199)) ?hr ?hp (fun _ hk => hk) ((show ∀ k_, w32.heap.size ≤ k_ → (fun k_ => some k_ ≠ (.slice Ao26 t200.length co26 : Value).ownBlock ∧ some k_ ≠ (v205 : Value).ownBlock ∧ some k_ ≠ (.slice Ao30 t207.length co30 : Value).ownBlock ∧ k_ ≠ gb199) k_ from fun k_ hk => ⟨Kd.fresh' (Kd.R_lt (by (with_reducible repeat (first | apply Kd.R_alloc | apply Kd.R_drewN | apply Kd.R_drew)); exact HO202.out)) k_ hk, Kd.fresh' (Kd.R_lt (by (with_reducible repeat (first | apply Kd.R_alloc | apply Kd.R_drewN | apply Kd.R_drew)); exact HO206.out)) k_ hk, Kd.fresh' (Kd.R_lt (by (with_reducible repeat (first | apply Kd.R_alloc | apply Kd.R_drewN | apply Kd.R_drew)); exact HO209.out)) k_ hk, Kd.freshB (g := gb199) (o := .cells #[.string (⟨#[106]⟩ : ByteArray), .slice Ao22 y196.length co22, .int .i64 0, .int .i64 0, .int .i64 0] 47 (0, 0)) (by (with_reducible repeat (first | refine blk_drewN ?_ _ | refine blk_drew ?_ | refine blk_alloc ?_ _)); exact BK199.out) k_ hk⟩) _ (Nat.le_refl _)) (Below.refl _ _) (Nat.le_refl _) (by simp) ?_; (case hd => rfl); (case hg => rfl); (case hr => first | (go_simp; done) | (go_simp; rfl)); (case hp => exact (Reps.c5 (show Kd.FK k47 _ _ (⟨(⟨#[106]⟩ : ByteArray), y196, 0, 0, 0⟩ : S47) [.string (⟨#[106]⟩ : ByteArray), .slice Ao22 y196.length co22, .int .i64 0, .int .i64 0, .int .i64 0] from (k47_mkF _ _ (⟨(⟨#[106]⟩ : ByteArray), y196, 0, 0, 0⟩ : S47) (Kd.R_reads' (Kd.R_mono (ok' := (fun k_ => some k_ ≠ (.slice Ao26 t200.length co26 : Value).ownBlock ∧ some k_ ≠ (v205 : Value).ownBlock ∧ some k_ ≠ (.slice Ao30 t207.length co30 : Value).ownBlock ∧ k_ ≠ gb199)) (Kd.R_types (Kd.R_apart' (Kd.R_apart' (Kd.R_apart' (HO198.out) (Kd.R_typed HO202.out) (by decide)) (Kd.R_typed HO206.out) (by decide)) (Kd.R_typed HO209.out) (by decide)) BK199.out (by decide)) (fun k_ hk => ⟨hk.1.1.1.2, ⟨hk.1.1.2, ⟨hk.1.2, hk.2⟩⟩⟩))).2.1 (Kd.R_F (Kd.R_mono (ok' := (fun k_ => some k_ ≠ (.slice Ao26 t200.length co26 : Value).ownBlock ∧ some k_ ≠ (v205 : Value).ownBlock ∧ some k_ ≠ (.slice Ao30 t207.length co30 : Value).ownBlock ∧ k_ ≠ gb199)) (Kd.R_types (Kd.R_apart' (Kd.R_apart' (Kd.R_apart' (HO198.out) (Kd.R_typed HO202.out) (by decide)) (Kd.R_typed HO206.out) (by decide)) (Kd.R_typed HO209.out) (by decide)) BK199.out (by decide)) (fun k_ hk => ⟨hk.1.1.1.2, ⟨hk.1.1.2, ⟨hk.1.2, hk.2⟩⟩⟩))))) (Reps.none _ _)))
            intro v216 w33 ho34 hb hg_ hnew_
            clear hg_ hnew_
            (first | rw [← Ny215.out] at ho34 | (simp only [Int.reduceToNat] at ho34; rw [← Ny215.out] at ho34))
            have n0_ := Aside0.mk (Kd.R_below (by (with_reducible repeat (first | apply Kd.R_alloc | apply Kd.R_drewN | apply Kd.R_drew)); exact HO202.out) hb)
            have n1_ := Aside0.mk (Kd.R_below (by (with_reducible repeat (first | apply Kd.R_alloc | apply Kd.R_drewN | apply Kd.R_drew)); exact HO206.out) hb)
            have n2_ := Aside0.mk (Kd.R_below (by (with_reducible repeat (first | apply Kd.R_alloc | apply Kd.R_drewN | apply Kd.R_drew)); exact HO209.out) hb)
            have n3_ := Aside0.mk (Kd.N_lower ho34 (below_size (by repeat (first | (with_reducible first | exact HB.out | apply below_alloc | apply pw_below_drewN | apply below_drew1 | refine below_set ?_ GE199.out) | exact HB.out))))
            have n4_ := Aside0.mk (blk_below (g := gb199) (o := .cells #[.string (⟨#[106]⟩ : ByteArray), .slice Ao22 y196.length co22, .int .i64 0, .int .i64 0, .int .i64 0] 47 (0, 0)) (by (with_reducible repeat (first | refine blk_drewN ?_ _ | refine blk_drew ?_ | refine blk_alloc ?_ _)); exact BK199.out) hb)
            have n5_ := Aside0.mk (Kd.C_below ((Kd.R_reads' (by (with_reducible repeat (first | apply Kd.R_alloc | apply Kd.R_drewN | apply Kd.R_drew)); exact HO198.out)).2.2) hb)
            have n6_ := Aside0.mk (below_step (by repeat (first | (with_reducible first | exact HB.out | apply below_alloc | apply pw_below_drewN | apply below_drew1 | refine below_set ?_ GE199.out) | exact HB.out)) hb)
            clear HO202
            clear HO206
            clear HO209
            clear BK199
            clear HB
            clear HO198
            have HO202 := n0_
            have HO206 := n1_
            have HO209 := n2_
            have HO217 := n3_
            have BK199 := n4_
            have HSHO198 := n5_
            have HB := n6_
            clear n0_ n1_ n2_ n3_ n4_ n5_ n6_
            clear hb ho34
            refine hK.out _ _ ⟨(blk_cell BK199.out 0).trans rfl, (blk_cell BK199.out 1).trans rfl, (blk_cell BK199.out 2).trans rfl, (blk_cell BK199.out 3).trans rfl, (blk_cell BK199.out 4).trans rfl⟩ (fun hHeld => ?_)
            clear hK K
            refine norm_ (a' := ?_) ?_ ?_
            rotate_left
            ·show Act.put _ (some 28) _ = _
             simp only [Act.put, List.setIfInBounds_toArray, List.set_cons_zero, List.set_cons_succ, i64_w, i32_w]
             rfl
            refine one_ (i := 0) (N := some 26) #[true, true, true, false, false, false, false, false, false] rfl rfl (one_of HT_.out (by kernel_rfl)) (by decide) (fun K hK => ?_)
            refine goes_ Try.func28 (by kernel_rfl) rfl #[] (by rfl) rfl rfl (by (try simp only [List.map_toArray, List.map_cons, List.map_nil]); first | done | rfl | (simp only [List.length_drop, List.length_take]; rfl)) ?_
            with_reducible refine (gangsawlaw49_machines.calls  t212 _ A5.out).mono ?_
            rintro e w35 ⟨v213, rfl, ho0, hb⟩
            refine ⟨_, rfl, ?_⟩
            have n0_ := Aside0.mk (Kd.R_elder' (by (with_reducible repeat (first | apply Kd.R_alloc | apply Kd.R_drewN | apply Kd.R_drew)); exact HO202.out) (Kd.R_base ho0) hb)
            have n1_ := Aside0.mk (Kd.R_below (by (with_reducible repeat (first | apply Kd.R_alloc | apply Kd.R_drewN | apply Kd.R_drew)); exact HO206.out) hb)
            have n2_ := Aside0.mk (Kd.R_elder' (by (with_reducible repeat (first | apply Kd.R_alloc | apply Kd.R_drewN | apply Kd.R_drew)); exact HO209.out) (Kd.R_base ho0) hb)
            have n3_ := Aside0.mk (Kd.N_elder' (by (with_reducible repeat (first | apply Kd.N_alloc | apply Kd.N_drewN | apply Kd.N_drew)); exact HO217.out) (Kd.R_base ho0) hb)
            have n4_ := Aside0.mk (Kd.R_lower (Kd.R_new' (Kd.R_new' ho0 (Kd.R_lt (by (with_reducible repeat (first | apply Kd.R_alloc | apply Kd.R_drewN | apply Kd.R_drew)); exact HO202.out))) (Kd.R_lt (by (with_reducible repeat (first | apply Kd.R_alloc | apply Kd.R_drewN | apply Kd.R_drew)); exact HO209.out))) (below_size (by repeat (first | (with_reducible first | exact HB.out | apply below_alloc | apply pw_below_drewN | apply below_drew1 | refine below_set ?_ GE199.out) | exact HB.out))))
            have n5_ := Aside0.mk (blk_below (g := gb199) (o := .cells #[.string (⟨#[106]⟩ : ByteArray), .slice Ao22 y196.length co22, .int .i64 0, .int .i64 0, .int .i64 0] 47 (0, 0)) (by (with_reducible repeat (first | refine blk_drewN ?_ _ | refine blk_drew ?_ | refine blk_alloc ?_ _)); exact BK199.out) hb)
            have n6_ := Aside0.mk (Kd.C_below (by repeat (first | (with_reducible exact HSHO198.out) | (with_reducible refine Kd.C_alloc ?_ _) | (with_reducible refine Kd.C_drewN ?_ _) | (with_reducible refine Kd.C_drew ?_) | exact HSHO198.out)) hb)
            have n7_ := Aside0.mk (below_step (by repeat (first | (with_reducible first | exact HB.out | apply below_alloc | apply pw_below_drewN | apply below_drew1 | refine below_set ?_ GE199.out) | exact HB.out)) hb)
            clear HO202
            clear HO206
            clear HO209
            clear HO217
            clear BK199
            clear HSHO198
            clear HB
            have HO202 := n0_
            have HO206 := n1_
            have HO209 := n2_
            have HO217 := n3_
            have HO214 := n4_
            have BK199 := n5_
            have HSHO198 := n6_
            have HB := n7_
            clear n0_ n1_ n2_ n3_ n4_ n5_ n6_ n7_
            (try clear hb)
            (try clear hb2)
            (try clear hk)
            (try clear hi)
            (try clear ho0)
            refine hK.out _ _ ⟨(blk_cell BK199.out 0).trans rfl, (blk_cell BK199.out 1).trans rfl, (blk_cell BK199.out 2).trans rfl, (blk_cell BK199.out 3).trans rfl, (blk_cell BK199.out 4).trans rfl⟩ (fun hHeld => ?_)
            clear hK K
            refine norm_ (a' := ?_) ?_ ?_
            rotate_left
            ·show Act.put _ (some 26) _ = _
             simp only [Act.put, List.setIfInBounds_toArray, List.set_cons_zero, List.set_cons_succ, i64_w, i32_w]
             rfl
            exact norm_ (by simp only [putAll, Act.put, List.setIfInBounds_toArray, List.set_cons_zero, List.set_cons_succ]) (hCont (v213, v216) _ ⟨hHeld, (by (with_reducible repeat (first | apply Kd.R_alloc | apply Kd.R_drewN | apply Kd.R_drew)); exact HO202.out), (by (with_reducible repeat (first | apply Kd.R_alloc | apply Kd.R_drewN | apply Kd.R_drew)); exact HO206.out), (by (with_reducible repeat (first | apply Kd.R_alloc | apply Kd.R_drewN | apply Kd.R_drew)); exact HO209.out), (by (with_reducible repeat (first | apply Kd.R_alloc | apply Kd.R_drewN | apply Kd.R_drew)); exact Kd.R_mono HO214.out (fun _ hk => ⟨hk.1.2, hk.2⟩)), (by (with_reducible repeat (first | apply Kd.N_alloc | apply Kd.N_drewN | apply Kd.N_drew)); exact Kd.N_mono HO217.out (fun _ hk => ⟨hk.1.1, ⟨hk.1.2.1, ⟨hk.1.2.2.1, ⟨hk.2, hk.1.2.2.2⟩⟩⟩⟩)), (by repeat (first | (with_reducible exact HSHO198.out) | (with_reducible refine Kd.C_alloc ?_ _) | (with_reducible refine Kd.C_drewN ?_ _) | (with_reducible refine Kd.C_drew ?_) | exact HSHO198.out)), (by (with_reducible repeat (first | refine blk_drewN ?_ _ | refine blk_drew ?_ | refine blk_alloc ?_ _)); exact BK199.out), (by repeat (first | (with_reducible first | exact HB.out | apply below_alloc | apply pw_below_drewN | apply below_drew1 | refine below_set ?_ GE199.out) | exact HB.out))⟩)
          rintro ⟨v213, v216⟩ w36 ⟨hS_, h0_, h1_, h2_, h3_, h4_, h5_, h6_, h7_⟩
          have n0_ : Aside0 (Kd.R k34 34 w36 w.heap.size (fun k_ => some k_ ≠ (.slice Ao30 t207.length co30 : Value).ownBlock ∧ some k_ ≠ (v213 : Value).ownBlock) (.slice Ao26 t200.length co26) t200) := ⟨h0_⟩
          have n1_ : Aside0 (Kd.R (Kd.int .i64) 3 w36 w.heap.size (fun _ => True) v205 t203) := ⟨h1_⟩
          have n2_ : Aside0 (Kd.R k34 34 w36 w.heap.size (fun k_ => some k_ ≠ (.slice Ao26 t200.length co26 : Value).ownBlock ∧ some k_ ≠ (v213 : Value).ownBlock) (.slice Ao30 t207.length co30) t207) := ⟨h2_⟩
          have n3_ : Aside0 (Kd.R k34 34 w36 w.heap.size (fun k_ => some k_ ≠ (.slice Ao26 t200.length co26 : Value).ownBlock ∧ some k_ ≠ (.slice Ao30 t207.length co30 : Value).ownBlock) v213 t212) := ⟨h3_⟩
          have n4_ : Aside0 (Kd.N k47 47 w36 w.heap.size (fun k_ => some k_ ≠ (.slice Ao26 t200.length co26 : Value).ownBlock ∧ some k_ ≠ (v205 : Value).ownBlock ∧ some k_ ≠ (.slice Ao30 t207.length co30 : Value).ownBlock ∧ some k_ ≠ (v213 : Value).ownBlock ∧ k_ ≠ gb199) v216 y215) := ⟨h4_⟩
          have n5_ : Aside0 (Kd.C k36 w36 Ao22 y196.length y196) := ⟨h5_⟩
          have n6_ : Aside0 (w36.heap[gb199]? = some (.cells #[.string (⟨#[106]⟩ : ByteArray), .slice Ao22 y196.length co22, .int .i64 0, .int .i64 0, .int .i64 0] 47 (0, 0))) := ⟨h6_⟩
          have n7_ : Aside0 (Below w.heap.size w w36) := ⟨h7_⟩
          clear HO198
          clear HO202
          clear HO206
          clear HO209
          clear BK199
          clear HB
          clear h0_ h1_ h2_ h3_ h4_ h5_ h6_ h7_
          have HO202 := n0_
          have HO206 := n1_
          have HO209 := n2_
          have HO214 := n3_
          have HO217 := n4_
          have HSHO198 := n5_
          have BK199 := n6_
          have HB := n7_
          clear n0_ n1_ n2_ n3_ n4_ n5_ n6_ n7_
          have hHeld : w36.cell? ⟨gb199, 0, none⟩ = some (.string (⟨#[106]⟩ : ByteArray)) ∧ w36.cell? ⟨gb199, 1, none⟩ = some (.slice Ao22 y196.length co22) ∧ w36.cell? ⟨gb199, 2, none⟩ = some (.int .i64 0) ∧ w36.cell? ⟨gb199, 3, none⟩ = some (.int .i64 0) ∧ w36.cell? ⟨gb199, 4, none⟩ = some (.int .i64 0) := hS_
          obtain ⟨Ao37, co37, eo37⟩ := Kd.R_slice HO214.out
          (first | subst eo37 | (injection eo37 with f1_ f2_ f3_; have f4_ := f1_.symm; have f5_ := f3_.symm; clear f1_ f2_ f3_; subst f4_; subst f5_))
          obtain ⟨Ao38, co38, eo38⟩ := Kd.N_slice HO217.out
          (first | subst eo38 | (injection eo38 with f1_ f2_ f3_; have f4_ := f1_.symm; have f5_ := f3_.symm; clear f1_ f2_ f3_; subst f4_; subst f5_))
          refine norm_ (a' := ?_) ?_ ?_
          rotate_left
          ·simp only [putAll, Act.put, List.setIfInBounds_toArray, List.set_cons_zero, List.set_cons_succ]
           rfl
          refine one_ (i := 3) (N := some 29) #[true, true, true, true, false, false, false, false, false] rfl rfl (one_of HT_.out (by kernel_rfl)) (by decide) (fun K hK => ?_)
          refine goes_ Try.func17 (by kernel_rfl) rfl #[.slice Ao37 t212.length co37, .slice Ao38 y215.length co38] (by rfl) rfl rfl (by (try simp only [List.map_toArray, List.map_cons, List.map_nil]); first | done | rfl | (simp only [List.length_drop, List.length_take]; rfl)) ?_
          with_reducible refine (machine_Load.calls k _ _ t212 _ _ y215 t218 t219 _ ?side1 ?side2 ?side3 ?side4 A6.out).mono ?_
          (case side1 => repeat (first | exact (Kd.R_reads' HO214.out).2.2 | (with_reducible refine Kd.C_alloc ?_ _) | (with_reducible refine Kd.C_drewN ?_ _) | (with_reducible refine Kd.C_drew ?_)))
          (case side2 => exact (Kd.R_reads' HO214.out).2.1)
          (case side3 => repeat (first | exact (Kd.N_reads' HO217.out).2.2 | (with_reducible refine Kd.C_alloc ?_ _) | (with_reducible refine Kd.C_drewN ?_ _) | (with_reducible refine Kd.C_drew ?_)))
          (case side4 => exact (Kd.N_reads' HO217.out).2.1)
          rintro e w39 ⟨v220, rfl, ho0, hb⟩
          refine ⟨_, rfl, ?_⟩
          have n0_ := Aside0.mk (Kd.R_below (by (with_reducible repeat (first | apply Kd.R_alloc | apply Kd.R_drewN | apply Kd.R_drew)); exact HO202.out) hb)
          have n1_ := Aside0.mk (Kd.R_elder' (by (with_reducible repeat (first | apply Kd.R_alloc | apply Kd.R_drewN | apply Kd.R_drew)); exact HO206.out) (Kd.R_base ho0) hb)
          have n2_ := Aside0.mk (Kd.R_below (by (with_reducible repeat (first | apply Kd.R_alloc | apply Kd.R_drewN | apply Kd.R_drew)); exact HO209.out) hb)
          have n3_ := Aside0.mk (Kd.R_below (by (with_reducible repeat (first | apply Kd.R_alloc | apply Kd.R_drewN | apply Kd.R_drew)); exact HO214.out) hb)
          have n4_ := Aside0.mk (Kd.N_elder' (by (with_reducible repeat (first | apply Kd.N_alloc | apply Kd.N_drewN | apply Kd.N_drew)); exact HO217.out) (Kd.R_base ho0) hb)
          have n5_ := Aside0.mk (Kd.R_lower (Kd.R_new' ho0 (Kd.R_lt (by (with_reducible repeat (first | apply Kd.R_alloc | apply Kd.R_drewN | apply Kd.R_drew)); exact HO206.out))) (below_size (by repeat (first | (with_reducible first | exact HB.out | apply below_alloc | apply pw_below_drewN | apply below_drew1 | refine below_set ?_ GE199.out) | exact HB.out))))
          have n6_ := Aside0.mk (blk_below (g := gb199) (o := .cells #[.string (⟨#[106]⟩ : ByteArray), .slice Ao22 y196.length co22, .int .i64 0, .int .i64 0, .int .i64 0] 47 (0, 0)) (by (with_reducible repeat (first | refine blk_drewN ?_ _ | refine blk_drew ?_ | refine blk_alloc ?_ _)); exact BK199.out) hb)
          have n7_ := Aside0.mk (Kd.C_below (by repeat (first | (with_reducible exact HSHO198.out) | (with_reducible refine Kd.C_alloc ?_ _) | (with_reducible refine Kd.C_drewN ?_ _) | (with_reducible refine Kd.C_drew ?_) | exact HSHO198.out)) hb)
          have n8_ := Aside0.mk (below_step (by repeat (first | (with_reducible first | exact HB.out | apply below_alloc | apply pw_below_drewN | apply below_drew1 | refine below_set ?_ GE199.out) | exact HB.out)) hb)
          clear HO202
          clear HO206
          clear HO209
          clear HO214
          clear HO217
          clear BK199
          clear HSHO198
          clear HB
          have HO202 := n0_
          have HO206 := n1_
          have HO209 := n2_
          have HO214 := n3_
          have HO217 := n4_
          have HO221 := n5_
          have BK199 := n6_
          have HSHO198 := n7_
          have HB := n8_
          clear n0_ n1_ n2_ n3_ n4_ n5_ n6_ n7_ n8_
          (try clear hb)
          (try clear hb2)
          (try clear hk)
          (try clear hi)
          (try clear ho0)
          refine hK.out _ _ ⟨(blk_cell BK199.out 0).trans rfl, (blk_cell BK199.out 1).trans rfl, (blk_cell BK199.out 2).trans rfl, (blk_cell BK199.out 3).trans rfl, (blk_cell BK199.out 4).trans rfl⟩ (fun hHeld => ?_)
          clear hK K
          refine norm_ (a' := ?_) ?_ ?_
          rotate_left
          ·show Act.put _ (some 29) _ = _
           simp only [Act.put, List.setIfInBounds_toArray, List.set_cons_zero, List.set_cons_succ, i64_w, i32_w]
           rfl
          refine pure_ (i := 4) (N := some 25) (v := ?_) (a' := ?_) #[true, true, true, true, true, false, false, false, false] rfl rfl (any_of HT_.out (by kernel_rfl)) (fun _ _ _ h => h) (Or.inl ⟨by rfl, ?_⟩) ?_ ?_
          rotate_left
          ·intro w'
           go_simp
           with_reducible rfl
          rotate_left
          ·simp only [Act.put, List.setIfInBounds_toArray, List.set_cons_zero, List.set_cons_succ, i64_w, i32_w]
           rfl
          refine pure_ (i := 5) (N := some 30) (v := ?_) (a' := ?_) #[true, true, true, true, true, true, false, false, false] rfl rfl (any_of HT_.out (by kernel_rfl)) (fun _ _ _ h => h) (Or.inl ⟨by rfl, ?_⟩) ?_ ?_
          rotate_left
          ·intro w'
           go_simp
           with_reducible rfl
          rotate_left
          ·simp only [Act.put, List.setIfInBounds_toArray, List.set_cons_zero, List.set_cons_succ, i64_w, i32_w]
           rfl
          refine pure_ (i := 6) (N := some 31) (v := ?_) (a' := ?_) #[true, true, true, true, true, true, true, false, false] rfl rfl (any_of HT_.out (by kernel_rfl)) (fun _ _ _ h => h) (Or.inl ⟨by rfl, ?_⟩) ?_ ?_
          rotate_left
          ·intro w'
           go_simp
           with_reducible rfl
          rotate_left
          ·simp only [Act.put, List.setIfInBounds_toArray, List.set_cons_zero, List.set_cons_succ, i64_w, i32_w]
           rfl
          refine pure_ (i := 7) (N := some 6) (v := ?_) (a' := ?_) #[true, true, true, true, true, true, true, true, false] rfl rfl (any_of HT_.out (by kernel_rfl)) (fun _ _ _ h => h) (Or.inl ⟨by rfl, ?_⟩) ?_ ?_
          rotate_left
          ·intro w'
           go_simp
           with_reducible rfl
          rotate_left
          ·simp only [Act.put, List.setIfInBounds_toArray, List.set_cons_zero, List.set_cons_succ, i64_w, i32_w]
           rfl
          refine pure_ (i := 8) (N := some 7) (v := ?_) (a' := ?_) #[true, true, true, true, true, true, true, true, true] rfl rfl (any_of HT_.out (by kernel_rfl)) (fun _ _ _ h => h) (Or.inl ⟨by rfl, ?_⟩) ?_ ?_
          rotate_left
          ·intro w'
           go_simp
           with_reducible rfl
          rotate_left
          ·simp only [Act.put, List.setIfInBounds_toArray, List.set_cons_zero, List.set_cons_succ, i64_w, i32_w]
           rfl
          refine done_ (done_of HT_.out (by kernel_rfl)) ?_
          try go_wp2
          have n0_ := Aside0.mk (Kd.R_drew HO202.out)
          have n1_ := Aside0.mk (Kd.R_drew (show Kd.R (Kd.int .i64) 3 w39 w.heap.size (fun k_ => some k_ ≠ (v220 : Value).ownBlock) v205 t203 from by (with_reducible repeat (first | apply Kd.R_alloc | apply Kd.R_drewN | apply Kd.R_drew)); exact Kd.R_mono HO206.out (fun _ hk => hk.2)))
          have n2_ := Aside0.mk (Kd.R_drew HO209.out)
          have n3_ := Aside0.mk (Kd.R_drew HO214.out)
          have n4_ := Aside0.mk (Kd.N_drew (show Kd.N k47 47 w39 w.heap.size (fun k_ => some k_ ≠ (.slice Ao26 t200.length co26 : Value).ownBlock ∧ some k_ ≠ (v205 : Value).ownBlock ∧ some k_ ≠ (.slice Ao30 t207.length co30 : Value).ownBlock ∧ some k_ ≠ (.slice Ao37 t212.length co37 : Value).ownBlock ∧ some k_ ≠ (v220 : Value).ownBlock ∧ k_ ≠ gb199) (.slice Ao38 y215.length co38) y215 from by (with_reducible repeat (first | apply Kd.N_alloc | apply Kd.N_drewN | apply Kd.N_drew)); exact Kd.N_mono HO217.out (fun _ hk => ⟨hk.1.1, ⟨hk.1.2.1, ⟨hk.1.2.2.1, ⟨hk.1.2.2.2.1, ⟨hk.2, hk.1.2.2.2.2⟩⟩⟩⟩⟩)))
          have n5_ := Aside0.mk (Kd.R_drew (show Kd.R (Kd.int .i64) 3 w39 w.heap.size (fun k_ => some k_ ≠ (v205 : Value).ownBlock) v220 t218 from by (with_reducible repeat (first | apply Kd.R_alloc | apply Kd.R_drewN | apply Kd.R_drew)); exact Kd.R_mono HO221.out (fun _ hk => hk.2)))
          have n6_ := Aside0.mk (blk_drew BK199.out)
          have n7_ := Aside0.mk (Kd.C_drew HSHO198.out)
          have n8_ := Aside0.mk (below_drew1 HB.out)
          clear HO202
          clear HO206
          clear HO209
          clear HO214
          clear HO217
          clear HO221
          clear BK199
          clear HSHO198
          clear HB
          have HO202 := n0_
          have HO206 := n1_
          have HO209 := n2_
          have HO214 := n3_
          have HO217 := n4_
          have HO221 := n5_
          have BK199 := n6_
          have HSHO198 := n7_
          have HB := n8_
          clear n0_ n1_ n2_ n3_ n4_ n5_ n6_ n7_ n8_
          have p226 : 0 ≤ (1 : Int) := (by omega)
          have q226 : 1 < (y196.length : Int) := of_decide_eq_true (by first | (with_reducible assumption) | assumption)
          obtain ⟨ad226, e226, hx226_0, hx226_1, hx226_2⟩ := at_T36 (by repeat (first | (with_reducible exact HSHO198.out) | (with_reducible refine Kd.C_alloc ?_ _) | (with_reducible refine Kd.C_drewN ?_ _) | (with_reducible refine Kd.C_drew ?_) | exact HSHO198.out)) 1 p226 q226
          cases e226
          (try simp only [show (1 : Int).toNat = 1 from rfl, Nat.reduceMul, Nat.reduceEqDiff, Go.Addr.add, ↓reduceIte] at hx226_0)
          (try simp only [show (1 : Int).toNat = 1 from rfl, Nat.reduceMul, Nat.reduceEqDiff, Go.Addr.add, ↓reduceIte] at hx226_1)
          (try simp only [show (1 : Int).toNat = 1 from rfl, Nat.reduceMul, Nat.reduceEqDiff, Go.Addr.add, ↓reduceIte] at hx226_2)
          have qi226 : (1 < y196.length) = True := eq_true (by omega)
          (try rw [show ((1 : Int)).toNat = 1 from rfl] at hx226_0)
          (try rw [show 1 * 3 = 3 from rfl] at hx226_0)
          (try rw [show ((1 : Int)).toNat = 1 from rfl] at hx226_1)
          (try rw [show 1 * 3 = 3 from rfl] at hx226_1)
          (try rw [show ((1 : Int)).toNat = 1 from rfl] at hx226_2)
          (try rw [show 1 * 3 = 3 from rfl] at hx226_2)
          replace p226 := eq_true p226
          replace q226 := eq_true q226
          refine start_ (n := 13) (S := fun w' => w'.cell? ⟨gb199, 0, none⟩ = some (.string (⟨#[106]⟩ : ByteArray)) ∧ w'.cell? ⟨gb199, 1, none⟩ = some (.slice (some ad226) y196.length co22) ∧ w'.cell? ⟨gb199, 2, none⟩ = some (.int .i64 0) ∧ w'.cell? ⟨gb199, 3, none⟩ = some (.int .i64 0) ∧ w'.cell? ⟨gb199, 4, none⟩ = some (.int .i64 0) ∧ w'.cell? ⟨ad226.block, ad226.off + 3, none⟩ = some (.string ((rd_T36 y196 1).f0)) ∧ w'.cell? ⟨ad226.block, ad226.off + 3 + 1, none⟩ = some (.int .i64 ((rd_T36 y196 1).f1)) ∧ w'.cell? ⟨ad226.block, ad226.off + 3 + 2, none⟩ = some (.int .i64 ((rd_T36 y196 1).f2))) (ds := []) #[false, false, false, false, false, false, false, false, false, false, false, false, false] (by kernel_rfl) rfl rfl ⟨(blk_cell BK199.out 0).trans rfl, (blk_cell BK199.out 1).trans rfl, (blk_cell BK199.out 2).trans rfl, (blk_cell BK199.out 3).trans rfl, (blk_cell BK199.out 4).trans rfl, hx226_0, hx226_1, hx226_2⟩ (fun hHeld => ?_); refine with_tabW gangsawlaw49_awake.tab5 gangsawlaw49_awake.bits5 (fun HT_ HW_ => ?_)
          generalize w39.drew = w40 at HO202 HO206 HO209 HO214 HO217 HO221 BK199 HSHO198 HB hx226_0 hx226_1 hx226_2 hHeld ⊢
          refine pure_ (i := 3) (N := some 36) (v := ?_) (a' := ?_) #[false, false, false, true, false, false, false, false, false, false, false, false, false] rfl rfl (any_of HT_.out (by kernel_rfl)) (fun _ _ _ h => h) (Or.inl ⟨by rfl, ?_⟩) ?_ ?_
          rotate_left
          ·intro w'
           go_simp
           with_reducible rfl
          rotate_left
          ·simp only [Act.put, List.setIfInBounds_toArray, List.set_cons_zero, List.set_cons_succ, i64_w, i32_w]
           rfl
          refine take_ (i := 4) (N := some 37) (v := ?_) (a' := ?_) #[false, false, false, true, true, false, false, false, false, false, false, false, false] rfl rfl (take_ofW HT_.out HW_.out (by kernel_rfl)) (fun _ _ _ h => h) (Or.inl ⟨by rfl, ?_⟩) hHeld ?_ ?_
          rotate_left
          ·rintro w' ⟨s0, s1, s2, s3, s4, s5, s6, s7⟩
           go_simp
           with_reducible rfl
          rotate_left
          ·simp only [Act.put, List.setIfInBounds_toArray, List.set_cons_zero, List.set_cons_succ, i64_w, i32_w]
           rfl
          refine pure_ (i := 5) (N := some 38) (v := ?_) (a' := ?_) #[false, false, false, true, true, true, false, false, false, false, false, false, false] rfl rfl (any_of HT_.out (by kernel_rfl)) (fun _ _ _ h => h) (Or.inl ⟨by rfl, ?_⟩) ?_ ?_
          rotate_left
          ·intro w'
           go_simp
           with_reducible rfl
          rotate_left
          ·simp only [Act.put, List.setIfInBounds_toArray, List.set_cons_zero, List.set_cons_succ, i64_w, i32_w]
           rfl
          refine take_ (i := 6) (N := some 39) (v := ?_) (a' := ?_) #[false, false, false, true, true, true, true, false, false, false, false, false, false] rfl rfl (take_ofW HT_.out HW_.out (by kernel_rfl)) (fun _ _ _ h => h) (Or.inl ⟨by rfl, ?_⟩) hHeld ?_ ?_
          rotate_left
          ·rintro w' ⟨s0, s1, s2, s3, s4, s5, s6, s7⟩
           go_simp
           with_reducible rfl
          rotate_left
          ·simp only [Act.put, List.setIfInBounds_toArray, List.set_cons_zero, List.set_cons_succ, i64_w, i32_w]
           rfl
          refine one_ (i := 0) (N := some 33) #[true, false, false, true, true, true, true, false, false, false, false, false, false] rfl rfl (one_of HT_.out (by kernel_rfl)) (by decide) (fun K hK => ?_)
          refine goes_ Try.func28 (by kernel_rfl) rfl #[] (by rfl) rfl rfl (by (try simp only [List.map_toArray, List.map_cons, List.map_nil]); first | done | rfl | (simp only [List.length_drop, List.length_take]; rfl)) ?_
          with_reducible refine (gangsawlaw49_machines.calls  t222 _ A7.out).mono ?_
          rintro e w41 ⟨v223, rfl, ho0, hb⟩
          have HS5_ := (hb.cell (World.block_lt_of_cell? _ _ (hHeld.2.2.2.2.2.1))).trans (hHeld.2.2.2.2.2.1)
          have HS6_ := (hb.cell (World.block_lt_of_cell? _ _ (hHeld.2.2.2.2.2.2.1))).trans (hHeld.2.2.2.2.2.2.1)
          have HS7_ := (hb.cell (World.block_lt_of_cell? _ _ (hHeld.2.2.2.2.2.2.2))).trans (hHeld.2.2.2.2.2.2.2)
          refine ⟨_, rfl, ?_⟩
          have n0_ := Aside0.mk (Kd.R_elder' (by (with_reducible repeat (first | apply Kd.R_alloc | apply Kd.R_drewN | apply Kd.R_drew)); exact HO202.out) (Kd.R_base ho0) hb)
          have n1_ := Aside0.mk (Kd.R_below (by (with_reducible repeat (first | apply Kd.R_alloc | apply Kd.R_drewN | apply Kd.R_drew)); exact HO206.out) hb)
          have n2_ := Aside0.mk (Kd.R_elder' (by (with_reducible repeat (first | apply Kd.R_alloc | apply Kd.R_drewN | apply Kd.R_drew)); exact HO209.out) (Kd.R_base ho0) hb)
          have n3_ := Aside0.mk (Kd.R_elder' (by (with_reducible repeat (first | apply Kd.R_alloc | apply Kd.R_drewN | apply Kd.R_drew)); exact HO214.out) (Kd.R_base ho0) hb)
          have n4_ := Aside0.mk (Kd.N_elder' (by (with_reducible repeat (first | apply Kd.N_alloc | apply Kd.N_drewN | apply Kd.N_drew)); exact HO217.out) (Kd.R_base ho0) hb)
          have n5_ := Aside0.mk (Kd.R_below (by (with_reducible repeat (first | apply Kd.R_alloc | apply Kd.R_drewN | apply Kd.R_drew)); exact HO221.out) hb)
          have n6_ := Aside0.mk (Kd.R_lower (Kd.R_new' (Kd.R_new' (Kd.R_new' ho0 (Kd.R_lt (by (with_reducible repeat (first | apply Kd.R_alloc | apply Kd.R_drewN | apply Kd.R_drew)); exact HO202.out))) (Kd.R_lt (by (with_reducible repeat (first | apply Kd.R_alloc | apply Kd.R_drewN | apply Kd.R_drew)); exact HO209.out))) (Kd.R_lt (by (with_reducible repeat (first | apply Kd.R_alloc | apply Kd.R_drewN | apply Kd.R_drew)); exact HO214.out))) (below_size (by repeat (first | (with_reducible first | exact HB.out | apply below_alloc | apply pw_below_drewN | apply below_drew1 | refine below_set ?_ GE199.out) | exact HB.out))))
          have n7_ := Aside0.mk (blk_below (g := gb199) (o := .cells #[.string (⟨#[106]⟩ : ByteArray), .slice (some ad226) y196.length co22, .int .i64 0, .int .i64 0, .int .i64 0] 47 (0, 0)) (by (with_reducible repeat (first | refine blk_drewN ?_ _ | refine blk_drew ?_ | refine blk_alloc ?_ _)); exact BK199.out) hb)
          have n8_ := Aside0.mk (Kd.C_below (by repeat (first | (with_reducible exact HSHO198.out) | (with_reducible refine Kd.C_alloc ?_ _) | (with_reducible refine Kd.C_drewN ?_ _) | (with_reducible refine Kd.C_drew ?_) | exact HSHO198.out)) hb)
          have n9_ := Aside0.mk (below_step (by repeat (first | (with_reducible first | exact HB.out | apply below_alloc | apply pw_below_drewN | apply below_drew1 | refine below_set ?_ GE199.out) | exact HB.out)) hb)
          clear HO202
          clear HO206
          clear HO209
          clear HO214
          clear HO217
          clear HO221
          clear BK199
          clear HSHO198
          clear HB
          have HO202 := n0_
          have HO206 := n1_
          have HO209 := n2_
          have HO214 := n3_
          have HO217 := n4_
          have HO221 := n5_
          have HO224 := n6_
          have BK199 := n7_
          have HSHO198 := n8_
          have HB := n9_
          clear n0_ n1_ n2_ n3_ n4_ n5_ n6_ n7_ n8_ n9_
          (try clear hb)
          (try clear hb2)
          (try clear hk)
          (try clear hi)
          (try clear ho0)
          obtain ⟨Ao42, co42, eo42⟩ := Kd.R_slice HO224.out
          (first | subst eo42 | (injection eo42 with f1_ f2_ f3_; have f4_ := f1_.symm; have f5_ := f3_.symm; clear f1_ f2_ f3_; subst f4_; subst f5_))
          have p225 : 0 ≤ (0 : Int) := (by omega)
          have q225 : 0 < (t222.length : Int) := of_decide_eq_true (by first | (with_reducible assumption) | assumption)
          obtain ⟨ad225, e225, hx225_0, hx225_1, hx225_2⟩ := at_T34 (Kd.R_reads' HO224.out).2.2 0 p225 q225
          cases e225
          have qi225 : (0 < t222.length) = True := eq_true (by omega)
          (try rw [show ((0 : Int)).toNat = 0 from rfl] at hx225_0)
          (try rw [show 0 * 3 = 0 from rfl] at hx225_0)
          (try rw [Addr.add_zero'] at hx225_0)
          (try rw [show ((0 : Int)).toNat = 0 from rfl] at hx225_1)
          (try rw [show 0 * 3 = 0 from rfl] at hx225_1)
          (try rw [Addr.add_zero'] at hx225_1)
          (try rw [show ((0 : Int)).toNat = 0 from rfl] at hx225_2)
          (try rw [show 0 * 3 = 0 from rfl] at hx225_2)
          (try rw [Addr.add_zero'] at hx225_2)
          replace p225 := eq_true p225
          replace q225 := eq_true q225
          refine hK.out _ _ ⟨(blk_cell BK199.out 0).trans rfl, (blk_cell BK199.out 1).trans rfl, (blk_cell BK199.out 2).trans rfl, (blk_cell BK199.out 3).trans rfl, (blk_cell BK199.out 4).trans rfl, HS5_, HS6_, HS7_⟩ (fun hHeld => ?_)
          clear hK K
          refine norm_ (a' := ?_) ?_ ?_
          rotate_left
          ·show Act.put _ (some 33) _ = _
           simp only [Act.put, List.setIfInBounds_toArray, List.set_cons_zero, List.set_cons_succ, i64_w, i32_w]
           rfl
          refine pure_ (i := 1) (N := some 34) (v := ?_) (a' := ?_) #[true, true, false, true, true, true, true, false, false, false, false, false, false] rfl rfl (any_of HT_.out (by kernel_rfl)) (fun _ _ _ h => h) (Or.inl ⟨by rfl, ?_⟩) ?_ ?_
          rotate_left
          ·intro w'
           go_simp
           with_reducible rfl
          rotate_left
          ·simp only [Act.put, List.setIfInBounds_toArray, List.set_cons_zero, List.set_cons_succ, i64_w, i32_w]
           rfl
          refine one_ (i := 2) (N := some 35) #[true, true, true, true, true, true, true, false, false, false, false, false, false] rfl rfl (one_of HT_.out (by kernel_rfl)) (by decide) (fun K hK => ?_)
          refine Sm.value_step (v := ?v_) (by rfl) ?hr_ ?hk_
          case hr_ =>
           go_simp
           with_reducible rfl
          refine hK.out _ _ hHeld (fun hHeld => ?_)
          clear hK K
          refine norm_ (a' := ?_) ?_ ?_
          rotate_left
          ·show Act.put _ (some 35) _ = _
           simp only [Act.put, List.setIfInBounds_toArray, List.set_cons_zero, List.set_cons_succ, i64_w, i32_w]
           rfl
          refine one_ (i := 7) (N := some 40) #[true, true, true, true, true, true, true, true, false, false, false, false, false] rfl rfl (one_of HT_.out (by kernel_rfl)) (by decide) (fun K hK => ?_)
          refine goes_ Try.func15 (by kernel_rfl) rfl #[.agg #[.string ((rd_T34 t222 0).f0), .string ((rd_T34 t222 0).f1), .int .i64 ((rd_T34 t222 0).f2)], .agg #[.string ((rd_T36 y196 1).f0), .int .i64 ((rd_T36 y196 1).f1), .int .i64 ((rd_T36 y196 1).f2)], .bool true] (by rfl) rfl rfl (by (try simp only [List.map_toArray, List.map_cons, List.map_nil]); first | done | rfl | (simp only [List.length_drop, List.length_take]; rfl)) ?_
          with_reducible refine (machine_Minutes.calls k ((rd_T34 t222 0).f0) ((rd_T34 t222 0).f1) ((rd_T34 t222 0).f2) ((rd_T36 y196 1).f0) ((rd_T36 y196 1).f1) ((rd_T36 y196 1).f2) true t227 t228 _ A10.out).mono ?_
          rintro e w43 ⟨rfl, hb⟩
          have HS5_ := (hb.cell (World.block_lt_of_cell? _ _ (hHeld.2.2.2.2.2.1))).trans (hHeld.2.2.2.2.2.1)
          have HS6_ := (hb.cell (World.block_lt_of_cell? _ _ (hHeld.2.2.2.2.2.2.1))).trans (hHeld.2.2.2.2.2.2.1)
          have HS7_ := (hb.cell (World.block_lt_of_cell? _ _ (hHeld.2.2.2.2.2.2.2))).trans (hHeld.2.2.2.2.2.2.2)
          refine ⟨_, rfl, ?_⟩
          have n0_ := Aside0.mk (Kd.R_below (by (with_reducible repeat (first | apply Kd.R_alloc | apply Kd.R_drewN | apply Kd.R_drew)); exact HO202.out) hb)
          have n1_ := Aside0.mk (Kd.R_below (by (with_reducible repeat (first | apply Kd.R_alloc | apply Kd.R_drewN | apply Kd.R_drew)); exact HO206.out) hb)
          have n2_ := Aside0.mk (Kd.R_below (by (with_reducible repeat (first | apply Kd.R_alloc | apply Kd.R_drewN | apply Kd.R_drew)); exact HO209.out) hb)
          have n3_ := Aside0.mk (Kd.R_below (by (with_reducible repeat (first | apply Kd.R_alloc | apply Kd.R_drewN | apply Kd.R_drew)); exact HO214.out) hb)
          have n4_ := Aside0.mk (Kd.N_below (by (with_reducible repeat (first | apply Kd.N_alloc | apply Kd.N_drewN | apply Kd.N_drew)); exact HO217.out) hb)
          have n5_ := Aside0.mk (Kd.R_below (by (with_reducible repeat (first | apply Kd.R_alloc | apply Kd.R_drewN | apply Kd.R_drew)); exact HO221.out) hb)
          have n6_ := Aside0.mk (Kd.R_below (by (with_reducible repeat (first | apply Kd.R_alloc | apply Kd.R_drewN | apply Kd.R_drew)); exact HO224.out) hb)
          have n7_ := Aside0.mk (blk_below (g := gb199) (o := .cells #[.string (⟨#[106]⟩ : ByteArray), .slice (some ad226) y196.length co22, .int .i64 0, .int .i64 0, .int .i64 0] 47 (0, 0)) (by (with_reducible repeat (first | refine blk_drewN ?_ _ | refine blk_drew ?_ | refine blk_alloc ?_ _)); exact BK199.out) hb)
          have n8_ := Aside0.mk (Kd.C_below (by repeat (first | (with_reducible exact HSHO198.out) | (with_reducible refine Kd.C_alloc ?_ _) | (with_reducible refine Kd.C_drewN ?_ _) | (with_reducible refine Kd.C_drew ?_) | exact HSHO198.out)) hb)
          have n9_ := Aside0.mk (below_step (by repeat (first | (with_reducible first | exact HB.out | apply below_alloc | apply pw_below_drewN | apply below_drew1 | refine below_set ?_ GE199.out) | exact HB.out)) hb)
          clear HO202
          clear HO206
          clear HO209
          clear HO214
          clear HO217
          clear HO221
          clear HO224
          clear BK199
          clear HSHO198
          clear HB
          have HO202 := n0_
          have HO206 := n1_
          have HO209 := n2_
          have HO214 := n3_
          have HO217 := n4_
          have HO221 := n5_
          have HO224 := n6_
          have BK199 := n7_
          have HSHO198 := n8_
          have HB := n9_
          clear n0_ n1_ n2_ n3_ n4_ n5_ n6_ n7_ n8_ n9_
          (try clear hb)
          (try clear hb2)
          (try clear hk)
          (try clear hi)
          refine hK.out _ _ ⟨(blk_cell BK199.out 0).trans rfl, (blk_cell BK199.out 1).trans rfl, (blk_cell BK199.out 2).trans rfl, (blk_cell BK199.out 3).trans rfl, (blk_cell BK199.out 4).trans rfl, HS5_, HS6_, HS7_⟩ (fun hHeld => ?_)
          clear hK K
          refine norm_ (a' := ?_) ?_ ?_
          rotate_left
          ·show Act.put _ (some 40) _ = _
           simp only [Act.put, List.setIfInBounds_toArray, List.set_cons_zero, List.set_cons_succ, i64_w, i32_w]
           rfl
          refine pure_ (i := 8) (N := some 32) (v := ?_) (a' := ?_) #[true, true, true, true, true, true, true, true, true, false, false, false, false] rfl rfl (any_of HT_.out (by kernel_rfl)) (fun _ _ _ h => h) (Or.inl ⟨by rfl, ?_⟩) ?_ ?_
          rotate_left
          ·intro w'
           go_simp
           with_reducible rfl
          rotate_left
          ·simp only [Act.put, List.setIfInBounds_toArray, List.set_cons_zero, List.set_cons_succ, i64_w, i32_w]
           rfl
          refine pure_ (i := 9) (N := some 41) (v := ?_) (a' := ?_) #[true, true, true, true, true, true, true, true, true, true, false, false, false] rfl rfl (any_of HT_.out (by kernel_rfl)) (fun _ _ _ h => h) (Or.inl ⟨by rfl, ?_⟩) ?_ ?_
          rotate_left
          ·intro w'
           go_simp
           with_reducible rfl
          rotate_left
          ·simp only [Act.put, List.setIfInBounds_toArray, List.set_cons_zero, List.set_cons_succ, i64_w, i32_w]
           rfl
          refine pure_ (i := 10) (N := some 42) (v := ?_) (a' := ?_) #[true, true, true, true, true, true, true, true, true, true, true, false, false] rfl rfl (any_of HT_.out (by kernel_rfl)) (fun _ _ _ h => h) (Or.inl ⟨by rfl, ?_⟩) ?_ ?_
          rotate_left
          ·intro w'
           go_simp
           with_reducible rfl
          rotate_left
          ·simp only [Act.put, List.setIfInBounds_toArray, List.set_cons_zero, List.set_cons_succ, i64_w, i32_w]
           rfl
          refine pure_ (i := 11) (N := some 8) (v := ?_) (a' := ?_) #[true, true, true, true, true, true, true, true, true, true, true, true, false] rfl rfl (any_of HT_.out (by kernel_rfl)) (fun _ _ _ h => h) (Or.inl ⟨by rfl, ?_⟩) ?_ ?_
          rotate_left
          ·intro w'
           go_simp
           with_reducible rfl
          rotate_left
          ·simp only [Act.put, List.setIfInBounds_toArray, List.set_cons_zero, List.set_cons_succ, i64_w, i32_w]
           rfl
          refine pure_ (i := 12) (N := some 9) (v := ?_) (a' := ?_) #[true, true, true, true, true, true, true, true, true, true, true, true, true] rfl rfl (any_of HT_.out (by kernel_rfl)) (fun _ _ _ h => h) (Or.inl ⟨by rfl, ?_⟩) ?_ ?_
          rotate_left
          ·intro w'
           go_simp
           with_reducible rfl
          rotate_left
          ·simp only [Act.put, List.setIfInBounds_toArray, List.set_cons_zero, List.set_cons_succ, i64_w, i32_w]
           rfl
          refine done_ (done_of HT_.out (by kernel_rfl)) ?_
          try go_wp2_with (first | ((with_reducible refine gate_dst (N := 47) rfl ?_); (try (refine gate_guard (by rfl) ?_; dsimp only)); refine Kd.R_lit (Kd.int .i64) _ 3 ?hg (N := 47) ?hd (xs := ([1, 2] : List Int)) (inner := [.int .i64 1, .int .i64 2]) (ok := fun _ => True) (okp := fun _ => True) ?hr ?hp (fun _ hk => hk) trivial (Below.refl _ _) (Nat.le_refl _) (by simp) ?_; (case hd => rfl); (case hg => rfl); (case hr => first | (go_simp; done) | (go_simp; rfl)); (case hp => exact (Reps.one (show Kd.M (Kd.int .i64) _ _ _ 1 [.int .i64 1] from rfl) (Reps.one (show Kd.M (Kd.int .i64) _ _ _ 2 [.int .i64 2] from rfl) (Reps.none _ _)))); intro v230 w44 ho45 hb hg_ hnew_; clear hg_ hnew_; (first | rw [← Ny229.out] at ho45 | (simp only [Int.reduceToNat] at ho45; rw [← Ny229.out] at ho45)); have n0_ := Aside0.mk (Kd.R_below (by (with_reducible repeat (first | apply Kd.R_alloc | apply Kd.R_drewN | apply Kd.R_drew)); exact HO202.out) hb); have n1_ := Aside0.mk (Kd.R_elder' (by (with_reducible repeat (first | apply Kd.R_alloc | apply Kd.R_drewN | apply Kd.R_drew)); exact HO206.out) (Kd.R_base ho45) hb); have n2_ := Aside0.mk (Kd.R_below (by (with_reducible repeat (first | apply Kd.R_alloc | apply Kd.R_drewN | apply Kd.R_drew)); exact HO209.out) hb); have n3_ := Aside0.mk (Kd.R_below (by (with_reducible repeat (first | apply Kd.R_alloc | apply Kd.R_drewN | apply Kd.R_drew)); exact HO214.out) hb); have n4_ := Aside0.mk (Kd.N_elder' (by (with_reducible repeat (first | apply Kd.N_alloc | apply Kd.N_drewN | apply Kd.N_drew)); exact HO217.out) (Kd.R_base ho45) hb); have n5_ := Aside0.mk (Kd.R_elder' (by (with_reducible repeat (first | apply Kd.R_alloc | apply Kd.R_drewN | apply Kd.R_drew)); exact HO221.out) (Kd.R_base ho45) hb); have n6_ := Aside0.mk (Kd.R_below (by (with_reducible repeat (first | apply Kd.R_alloc | apply Kd.R_drewN | apply Kd.R_drew)); exact HO224.out) hb); have n7_ := Aside0.mk (Kd.R_lower (Kd.R_new' (Kd.R_new' ho45 (Kd.R_lt (by (with_reducible repeat (first | apply Kd.R_alloc | apply Kd.R_drewN | apply Kd.R_drew)); exact HO206.out))) (Kd.R_lt (by (with_reducible repeat (first | apply Kd.R_alloc | apply Kd.R_drewN | apply Kd.R_drew)); exact HO221.out))) (below_size (by repeat (first | (with_reducible first | exact HB.out | apply below_alloc | apply pw_below_drewN | apply below_drew1 | refine below_set ?_ GE199.out) | exact HB.out)))); have n8_ := Aside0.mk (blk_below (g := gb199) (o := .cells #[.string (⟨#[106]⟩ : ByteArray), .slice (some ad226) y196.length co22, .int .i64 0, .int .i64 0, .int .i64 0] 47 (0, 0)) (by (with_reducible repeat (first | refine blk_drewN ?_ _ | refine blk_drew ?_ | refine blk_alloc ?_ _)); exact BK199.out) hb); have n9_ := Aside0.mk (Kd.C_below (by repeat (first | (with_reducible exact HSHO198.out) | (with_reducible refine Kd.C_alloc ?_ _) | (with_reducible refine Kd.C_drewN ?_ _) | (with_reducible refine Kd.C_drew ?_) | exact HSHO198.out)) hb); have n10_ := Aside0.mk (below_step (by repeat (first | (with_reducible first | exact HB.out | apply below_alloc | apply pw_below_drewN | apply below_drew1 | refine below_set ?_ GE199.out) | exact HB.out)) hb); clear HO202; clear HO206; clear HO209; clear HO214; clear HO217; clear HO221; clear HO224; clear BK199; clear HSHO198; clear HB; have HO202 := n0_; have HO206 := n1_; have HO209 := n2_; have HO214 := n3_; have HO217 := n4_; have HO221 := n5_; have HO224 := n6_; have HO231 := n7_; have BK199 := n8_; have HSHO198 := n9_; have HB := n10_; clear n0_ n1_ n2_ n3_ n4_ n5_ n6_ n7_ n8_ n9_ n10_; clear hb ho45; obtain ⟨Ao46, co46, eo46⟩ := Kd.R_slice HO206.out; subst eo46; obtain ⟨Ao47, co47, eo47⟩ := Kd.R_slice HO231.out; subst eo47) | (go_at_call 14; (with_reducible refine (gangsawref49_Same.calls k _ _ t203 _ _ y229 true _ ?side1 ?side2 ?side3 ?side4 A12.out).mono ?_); (case side1 => repeat (first | exact (Kd.R_reads' HO206.out).2.2 | (with_reducible refine Kd.C_alloc ?_ _) | (with_reducible refine Kd.C_drewN ?_ _) | (with_reducible refine Kd.C_drew ?_))); (case side2 => exact (Kd.R_reads' HO206.out).2.1); (case side3 => repeat (first | exact (Kd.R_reads' HO231.out).2.2 | (with_reducible refine Kd.C_alloc ?_ _) | (with_reducible refine Kd.C_drewN ?_ _) | (with_reducible refine Kd.C_drew ?_))); (case side4 => exact (Kd.R_reads' HO231.out).2.1); rintro e w' ⟨rfl, ⟨nd, rfl⟩⟩) | ((with_reducible refine gate_dst (N := 64) rfl ?_); (try (refine gate_guard (by rfl) ?_; dsimp only)); refine Kd.R_lit (Kd.int .i64) _ 3 ?hg (N := 64) ?hd (xs := ([30, 0, 0] : List Int)) (inner := [.int .i64 30, .int .i64 0, .int .i64 0]) (ok := fun _ => True) (okp := fun _ => True) ?hr ?hp (fun _ hk => hk) trivial (Below.refl _ _) (Nat.le_refl _) (by simp) ?_; (case hd => rfl); (case hg => rfl); (case hr => first | (go_simp; done) | (go_simp; rfl)); (case hp => exact (Reps.one (show Kd.M (Kd.int .i64) _ _ _ 30 [.int .i64 30] from rfl) (Reps.one (show Kd.M (Kd.int .i64) _ _ _ 0 [.int .i64 0] from rfl) (Reps.one (show Kd.M (Kd.int .i64) _ _ _ 0 [.int .i64 0] from rfl) (Reps.none _ _))))); intro v234 w48 ho49 hb hg_ hnew_; clear hg_ hnew_; (first | rw [← Ny233.out] at ho49 | (simp only [Int.reduceToNat] at ho49; rw [← Ny233.out] at ho49)); have n0_ := Aside0.mk (Kd.R_below (by (with_reducible repeat (first | apply Kd.R_alloc | apply Kd.R_drewN | apply Kd.R_drew)); exact HO202.out) hb); have n1_ := Aside0.mk (Kd.R_elder' (by (with_reducible repeat (first | apply Kd.R_alloc | apply Kd.R_drewN | apply Kd.R_drew)); exact HO206.out) (Kd.R_base ho49) hb); have n2_ := Aside0.mk (Kd.R_below (by (with_reducible repeat (first | apply Kd.R_alloc | apply Kd.R_drewN | apply Kd.R_drew)); exact HO209.out) hb); have n3_ := Aside0.mk (Kd.R_below (by (with_reducible repeat (first | apply Kd.R_alloc | apply Kd.R_drewN | apply Kd.R_drew)); exact HO214.out) hb); have n4_ := Aside0.mk (Kd.N_elder' (by (with_reducible repeat (first | apply Kd.N_alloc | apply Kd.N_drewN | apply Kd.N_drew)); exact HO217.out) (Kd.R_base ho49) hb); have n5_ := Aside0.mk (Kd.R_elder' (by (with_reducible repeat (first | apply Kd.R_alloc | apply Kd.R_drewN | apply Kd.R_drew)); exact HO221.out) (Kd.R_base ho49) hb); have n6_ := Aside0.mk (Kd.R_below (by (with_reducible repeat (first | apply Kd.R_alloc | apply Kd.R_drewN | apply Kd.R_drew)); exact HO224.out) hb); have n7_ := Aside0.mk (Kd.R_elder' (by (with_reducible repeat (first | apply Kd.R_alloc | apply Kd.R_drewN | apply Kd.R_drew)); exact HO231.out) (Kd.R_base ho49) hb); have n8_ := Aside0.mk (Kd.R_lower (Kd.R_new' (Kd.R_new' (Kd.R_new' ho49 (Kd.R_lt (by (with_reducible repeat (first | apply Kd.R_alloc | apply Kd.R_drewN | apply Kd.R_drew)); exact HO206.out))) (Kd.R_lt (by (with_reducible repeat (first | apply Kd.R_alloc | apply Kd.R_drewN | apply Kd.R_drew)); exact HO221.out))) (Kd.R_lt (by (with_reducible repeat (first | apply Kd.R_alloc | apply Kd.R_drewN | apply Kd.R_drew)); exact HO231.out))) (below_size (by repeat (first | (with_reducible first | exact HB.out | apply below_alloc | apply pw_below_drewN | apply below_drew1 | refine below_set ?_ GE199.out) | exact HB.out)))); have n9_ := Aside0.mk (blk_below (g := gb199) (o := .cells #[.string (⟨#[106]⟩ : ByteArray), .slice (some ad226) y196.length co22, .int .i64 0, .int .i64 0, .int .i64 0] 47 (0, 0)) (by (with_reducible repeat (first | refine blk_drewN ?_ _ | refine blk_drew ?_ | refine blk_alloc ?_ _)); exact BK199.out) hb); have n10_ := Aside0.mk (Kd.C_below (by repeat (first | (with_reducible exact HSHO198.out) | (with_reducible refine Kd.C_alloc ?_ _) | (with_reducible refine Kd.C_drewN ?_ _) | (with_reducible refine Kd.C_drew ?_) | exact HSHO198.out)) hb); have n11_ := Aside0.mk (below_step (by repeat (first | (with_reducible first | exact HB.out | apply below_alloc | apply pw_below_drewN | apply below_drew1 | refine below_set ?_ GE199.out) | exact HB.out)) hb); clear HO202; clear HO206; clear HO209; clear HO214; clear HO217; clear HO221; clear HO224; clear HO231; clear BK199; clear HSHO198; clear HB; have HO202 := n0_; have HO206 := n1_; have HO209 := n2_; have HO214 := n3_; have HO217 := n4_; have HO221 := n5_; have HO224 := n6_; have HO231 := n7_; have HO235 := n8_; have BK199 := n9_; have HSHO198 := n10_; have HB := n11_; clear n0_ n1_ n2_ n3_ n4_ n5_ n6_ n7_ n8_ n9_ n10_ n11_; clear hb ho49; obtain ⟨Ao50, co50, eo50⟩ := Kd.R_slice HO221.out; subst eo50; obtain ⟨Ao51, co51, eo51⟩ := Kd.R_slice HO235.out; subst eo51) | (go_at_call 14; (with_reducible refine (gangsawref49_Same.calls k _ _ t218 _ _ y233 true _ ?side1 ?side2 ?side3 ?side4 A17.out).mono ?_); (case side1 => repeat (first | exact (Kd.R_reads' HO221.out).2.2 | (with_reducible refine Kd.C_alloc ?_ _) | (with_reducible refine Kd.C_drewN ?_ _) | (with_reducible refine Kd.C_drew ?_))); (case side2 => exact (Kd.R_reads' HO221.out).2.1); (case side3 => repeat (first | exact (Kd.R_reads' HO235.out).2.2 | (with_reducible refine Kd.C_alloc ?_ _) | (with_reducible refine Kd.C_drewN ?_ _) | (with_reducible refine Kd.C_drew ?_))); (case side4 => exact (Kd.R_reads' HO235.out).2.1); rintro e w' ⟨rfl, ⟨nd, rfl⟩⟩))
          go_ret
          exact ⟨by first | rfl | (simp [errW_none, errW_some] <;> rfl) | (simp [*, errW_none, errW_some] <;> rfl), by repeat (first | (with_reducible first | exact HB.out | apply below_alloc | apply pw_below_drewN | apply below_drew1 | refine below_set ?_ GE199.out) | exact HB.out)⟩
         ·rw [if_neg c19] at H
          have c19b0 : (t228 == 0) = false := beq_eq_false_iff_ne.mpr c19
          have c19b1 : (t228 != 0) = true := bne_iff_ne.mpr c19
          obtain rfl := Option.some.inj H
          exact absurd hr (by decide)
        ·replace c18 := Bool.eq_false_iff.mpr c18
         subst c18
         have H1 : (some false) = some r := by rw [if_neg (show ¬ (false = true) by decide)] at H; exact H
         clear H
         have H := H1
         clear H1
         obtain rfl := Option.some.inj H
         exact absurd hr (by decide)
       ·rw [if_neg c16] at H
        have c16b0 : (t219 == 0) = false := beq_eq_false_iff_ne.mpr c16
        have c16b1 : (t219 != 0) = true := bne_iff_ne.mpr c16
        obtain rfl := Option.some.inj H
        exact absurd hr (by decide)
      ·rw [if_neg c15] at H
       have c15b0 : (t210 == 95) = false := beq_eq_false_iff_ne.mpr c15
       have c15b1 : (t210 != 95) = true := bne_iff_ne.mpr c15
       obtain rfl := Option.some.inj H
       exact absurd hr (by decide)
     ·rw [if_neg c14] at H
      have c14b0 : (t211 == 0) = false := beq_eq_false_iff_ne.mpr c14
      have c14b1 : (t211 != 0) = true := bne_iff_ne.mpr c14
      obtain rfl := Option.some.inj H
      exact absurd hr (by decide)
    ·replace c13 := Bool.eq_false_iff.mpr c13
     subst c13
     have H1 : (some false) = some r := by rw [if_neg (show ¬ (false = true) by decide)] at H; exact H
     clear H
     have H := H1
     clear H1
     obtain rfl := Option.some.inj H
     exact absurd hr (by decide)
   ·rw [if_neg c11] at H
    have c11b0 : (t204 == 0) = false := beq_eq_false_iff_ne.mpr c11
    have c11b1 : (t204 != 0) = true := bne_iff_ne.mpr c11
    obtain rfl := Option.some.inj H
    exact absurd hr (by decide)
  ·rw [if_neg c9] at H
   exact absurd H (by simp)
 ·rw [if_neg c8] at H
  exact absurd H (by simp)
theorem gangsawlaw49_awake.holds : gangsawlaw49_awake.f (20) = some true := by kernel_rfl
def gangsawlaw49_awake_N.f : Option Bool := some true
theorem gangsawlaw49_awake_N.calls  (r : Bool) (w : World) (h : gangsawlaw49_awake_N.f = some r) :
  Calls Try.prog 9 #[] w fun e w' => e = .returned (.bool r) ∧ Below w.heap.size w w' := by
 obtain rfl : true = r := Option.some.inj h
 exact gangsawlaw49_awake.calls (20) true w gangsawlaw49_awake.holds rfl

end Go.Proofs.Ytpfggghpkdnppaa.P
