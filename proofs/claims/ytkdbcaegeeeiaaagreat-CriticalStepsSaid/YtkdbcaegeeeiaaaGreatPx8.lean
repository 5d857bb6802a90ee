/- What functions of the program return: each contract says so of one function, for every input at which its pure function yields. -/
import Derived.Test.YtkdbcaegeeeiaaaGreatPx0
import Derived.Test.YtkdbcaegeeeiaaaGreatPx4
import Derived.Test.YtkdbcaegeeeiaaaGreatPx6
import Derived.Test.YtkdbcaegeeeiaaaGreatPx7
namespace Go.Proofs.YtkdbcaegeeeiaaaGreat.P
open Go.RowKit Go.Proofs.YtkdbcaegeeeiaaaGreatW.PrintWords Go.Proofs.YtkdbcaegeeeiaaaGreatW.PrintLast Go.Proofs.YtkdbcaegeeeiaaaGreatW.PrintMore
attribute [local go_sem] max2_int min2_int max_two min_two max_three min_three max_four min_four   -- for this text's walks alone
set_option linter.unusedVariables false
set_option linter.unusedSimpArgs false

mutual
def gangsawref50_Check.j0 : Nat → List (S42) → List (S38) → Bool → Option (Int)
 | 0, _, _, _ => none
 | k + 1, x0, x1, x5 => gangsawref50_Check.l0 k x0 x1 x5 0
def gangsawref50_Check.l0 : Nat → List (S42) → List (S38) → Bool → Int → Option (Int)
 | 0, _, _, _, _ => none
 | k + 1, x0, x1, x5, x6 => if x6 < (x1.length : Int) then (if x5 = true then (gangsawref50_Check.l0 k x0 x1 true (wrap64 (x6 + 1))) else (if 0 ≤ x6 then (gangsawref50_Check.l0 k x0 x1 (decide ((((rd_T38 x1 x6).f1).length : Int) > 16)) (wrap64 (x6 + 1))) else (none))) else (if x5 = true then (some 7) else ((gangsawref50_named.f k x0 x1).bind fun t164 => (if t164 = true then ((gangsawref50_ranged.f k x0 x1).bind fun t165 => (if t165 = true then (gangsawref50_Check.l1 k x0 x1 0) else (some 6))) else (some 4))))
def gangsawref50_Check.l1 : Nat → List (S42) → List (S38) → Int → Option (Int)
 | 0, _, _, _ => none
 | k + 1, x0, x1, x7 => if x7 < (x1.length : Int) then (if 0 ≤ x7 then (if (((rd_T38 x1 x7).f1).length : Int) = 0 then (some 9) else (gangsawref50_Check.l1 k x0 x1 (wrap64 (x7 + 1)))) else (none)) else (gangsawref50_Check.l2 k x0 x1 0)
def gangsawref50_Check.l2 : Nat → List (S42) → List (S38) → Int → Option (Int)
 | 0, _, _, _ => none
 | k + 1, x0, x1, x8 => if x8 < (x0.length : Int) then (if 0 ≤ x8 then ((gangsawref50_machine.f k x0 ((rd_T42 x0 x8).f0)).bind fun t168 => (if t168 = x8 then (gangsawref50_Check.l2 k x0 x1 (wrap64 (x8 + 1))) else (some 5))) else (none)) else (gangsawref50_Check.l3 k x0 x1 0)
def gangsawref50_Check.l3 : Nat → List (S42) → List (S38) → Int → Option (Int)
 | 0, _, _, _ => none
 | k + 1, x0, x1, x9 => if x9 < (x1.length : Int) then (if 0 ≤ x9 then ((gangsawref50_job.f k x1 ((rd_T38 x1 x9).f0)).bind fun t170 => (if t170 = x9 then (gangsawref50_Check.l3 k x0 x1 (wrap64 (x9 + 1))) else (some 5))) else (none)) else (gangsawref50_Check.l4 k x0 x1 0)
def gangsawref50_Check.l4 : Nat → List (S42) → List (S38) → Int → Option (Int)
 | 0, _, _, _ => none
 | k + 1, x0, x1, x10 => if x10 < (x1.length : Int) then (gangsawref50_Check.l5 k x0 x1 x10 0) else (some 0)
def gangsawref50_Check.l5 : Nat → List (S42) → List (S38) → Int → Int → Option (Int)
 | 0, _, _, _, _ => none
 | k + 1, x0, x1, x10, x11 => if 0 ≤ x10 then (if x10 < (x1.length : Int) then (if x11 < (((rd_T38 x1 x10).f1).length : Int) then (gangsawref50_Check.l6 k x0 x1 x10 x11 false 0) else (gangsawref50_Check.l4 k x0 x1 (wrap64 (x10 + 1)))) else (none)) else (none)
def gangsawref50_Check.l6 : Nat → List (S42) → List (S38) → Int → Int → Bool → Int → Option (Int)
 | 0, _, _, _, _, _, _ => none
 | k + 1, x0, x1, x10, x11, x12, x13 => if x13 < (x0.length : Int) then (if x12 = true then (gangsawref50_Check.l6 k x0 x1 x10 x11 true (wrap64 (x13 + 1))) else (if 0 ≤ x13 then (if 0 ≤ x10 then (if x10 < (x1.length : Int) then (if 0 ≤ x11 then (if x11 < (((rd_T38 x1 x10).f1).length : Int) then (gangsawref50_Check.l6 k x0 x1 x10 x11 (((rd_T42 x0 x13).f1).toList == ((rd_T40 ((rd_T38 x1 x10).f1) x11).f0).toList) (wrap64 (x13 + 1))) else (none)) else (none)) else (none)) else (none)) else (none))) else (if x12 = true then (gangsawref50_Check.l5 k x0 x1 x10 (wrap64 (x11 + 1))) else (some 3))
end
def gangsawref50_Check.f (k : Nat) (l0 : List (S42)) (l1 : List (S38)) : Option (Int) := if (l0.length : Int) > 32 then (gangsawref50_Check.j0 k l0 l1 true) else (gangsawref50_Check.j0 k l0 l1 (decide ((l1.length : Int) > 128)))
theorem gangsawref50_Check.mono_l : ∀ k, (∀ y0 y1 y2, LeO (gangsawref50_Check.j0 k y0 y1 y2) (gangsawref50_Check.j0 (k + 1) y0 y1 y2)) ∧ (∀ y0 y1 y2 y3, LeO (gangsawref50_Check.l0 k y0 y1 y2 y3) (gangsawref50_Check.l0 (k + 1) y0 y1 y2 y3)) ∧ (∀ y0 y1 y2, LeO (gangsawref50_Check.l1 k y0 y1 y2) (gangsawref50_Check.l1 (k + 1) y0 y1 y2)) ∧ (∀ y0 y1 y2, LeO (gangsawref50_Check.l2 k y0 y1 y2) (gangsawref50_Check.l2 (k + 1) y0 y1 y2)) ∧ (∀ y0 y1 y2, LeO (gangsawref50_Check.l3 k y0 y1 y2) (gangsawref50_Check.l3 (k + 1) y0 y1 y2)) ∧ (∀ y0 y1 y2, LeO (gangsawref50_Check.l4 k y0 y1 y2) (gangsawref50_Check.l4 (k + 1) y0 y1 y2)) ∧ (∀ y0 y1 y2 y3, LeO (gangsawref50_Check.l5 k y0 y1 y2 y3) (gangsawref50_Check.l5 (k + 1) y0 y1 y2 y3)) ∧ (∀ y0 y1 y2 y3 y4 y5, LeO (gangsawref50_Check.l6 k y0 y1 y2 y3 y4 y5) (gangsawref50_Check.l6 (k + 1) y0 y1 y2 y3 y4 y5))
 | 0 => ⟨fun _ _ _ r h => by simp [gangsawref50_Check.j0] at h, fun _ _ _ _ r h => by simp [gangsawref50_Check.l0] at h, fun _ _ _ r h => by simp [gangsawref50_Check.l1] at h, fun _ _ _ r h => by simp [gangsawref50_Check.l2] at h, fun _ _ _ r h => by simp [gangsawref50_Check.l3] at h, fun _ _ _ r h => by simp [gangsawref50_Check.l4] at h, fun _ _ _ _ r h => by simp [gangsawref50_Check.l5] at h, fun _ _ _ _ _ _ r h => by simp [gangsawref50_Check.l6] at h⟩
 | k + 1 => by
  obtain ⟨ih0, ih1, ih2, ih3, ih4, ih5, ih6, ih7⟩ := gangsawref50_Check.mono_l k
  refine ⟨?_, ?_, ?_, ?_, ?_, ?_, ?_, ?_⟩
  ·intro y0 y1 y2
   unfold gangsawref50_Check.j0
   repeat' first
   | (with_reducible exact ih0 _ _ _)
   | (with_reducible exact ih1 _ _ _ _)
   | (with_reducible exact ih2 _ _ _)
   | (with_reducible exact ih3 _ _ _)
   | (with_reducible exact ih4 _ _ _)
   | (with_reducible exact ih5 _ _ _)
   | (with_reducible exact ih6 _ _ _ _)
   | (with_reducible exact ih7 _ _ _ _ _ _)
   | (with_reducible exact gangsawref50_job.mono _ _ _)
   | (with_reducible exact gangsawref50_machine.mono _ _ _)
   | (with_reducible exact gangsawref50_named.mono _ _ _)
   | (with_reducible exact gangsawref50_ranged.mono _ _ _)
   | (with_reducible exact LeO.refl _)
   | (with_reducible exact LeO.none _)
   | (with_reducible refine LeO.ite ?_ ?_)
   | (with_reducible refine LeO.bind ?_ (fun _ => ?_))
   | exact ih0 _ _ _
   | exact ih1 _ _ _ _
   | exact ih2 _ _ _
   | exact ih3 _ _ _
   | exact ih4 _ _ _
   | exact ih5 _ _ _
   | exact ih6 _ _ _ _
   | exact ih7 _ _ _ _ _ _
   | exact gangsawref50_job.mono _ _ _
   | exact gangsawref50_machine.mono _ _ _
   | exact gangsawref50_named.mono _ _ _
   | exact gangsawref50_ranged.mono _ _ _
   | exact LeO.none _
   | refine LeO.ite ?_ ?_
   | refine LeO.bind ?_ (fun _ => ?_)
  ·intro y0 y1 y2 y3
   unfold gangsawref50_Check.l0
   repeat' first
   | (with_reducible exact ih0 _ _ _)
   | (with_reducible exact ih1 _ _ _ _)
   | (with_reducible exact ih2 _ _ _)
   | (with_reducible exact ih3 _ _ _)
   | (with_reducible exact ih4 _ _ _)
   | (with_reducible exact ih5 _ _ _)
   | (with_reducible exact ih6 _ _ _ _)
   | (with_reducible exact ih7 _ _ _ _ _ _)
   | (with_reducible exact gangsawref50_job.mono _ _ _)
   | (with_reducible exact gangsawref50_machine.mono _ _ _)
   | (with_reducible exact gangsawref50_named.mono _ _ _)
   | (with_reducible exact gangsawref50_ranged.mono _ _ _)
   | (with_reducible exact LeO.refl _)
   | (with_reducible exact LeO.none _)
   | (with_reducible refine LeO.ite ?_ ?_)
   | (with_reducible refine LeO.bind ?_ (fun _ => ?_))
   | exact ih0 _ _ _
   | exact ih1 _ _ _ _
   | exact ih2 _ _ _
   | exact ih3 _ _ _
   | exact ih4 _ _ _
   | exact ih5 _ _ _
   | exact ih6 _ _ _ _
   | exact ih7 _ _ _ _ _ _
   | exact gangsawref50_job.mono _ _ _
   | exact gangsawref50_machine.mono _ _ _
   | exact gangsawref50_named.mono _ _ _
   | exact gangsawref50_ranged.mono _ _ _
   | exact LeO.none _
   | refine LeO.ite ?_ ?_
   | refine LeO.bind ?_ (fun _ => ?_)
  ·intro y0 y1 y2
   unfold gangsawref50_Check.l1
   repeat' first
   | (with_reducible exact ih0 _ _ _)
   | (with_reducible exact ih1 _ _ _ _)
   | (with_reducible exact ih2 _ _ _)
   | (with_reducible exact ih3 _ _ _)
   | (with_reducible exact ih4 _ _ _)
   | (with_reducible exact ih5 _ _ _)
   | (with_reducible exact ih6 _ _ _ _)
   | (with_reducible exact ih7 _ _ _ _ _ _)
   | (with_reducible exact gangsawref50_job.mono _ _ _)
   | (with_reducible exact gangsawref50_machine.mono _ _ _)
   | (with_reducible exact gangsawref50_named.mono _ _ _)
   | (with_reducible exact gangsawref50_ranged.mono _ _ _)
   | (with_reducible exact LeO.refl _)
   | (with_reducible exact LeO.none _)
   | (with_reducible refine LeO.ite ?_ ?_)
   | (with_reducible refine LeO.bind ?_ (fun _ => ?_))
   | exact ih0 _ _ _
   | exact ih1 _ _ _ _
   | exact ih2 _ _ _
   | exact ih3 _ _ _
   | exact ih4 _ _ _
   | exact ih5 _ _ _
   | exact ih6 _ _ _ _
   | exact ih7 _ _ _ _ _ _
   | exact gangsawref50_job.mono _ _ _
   | exact gangsawref50_machine.mono _ _ _
   | exact gangsawref50_named.mono _ _ _
   | exact gangsawref50_ranged.mono _ _ _
   | exact LeO.none _
   | refine LeO.ite ?_ ?_
   | refine LeO.bind ?_ (fun _ => ?_)
  ·intro y0 y1 y2
   unfold gangsawref50_Check.l2
   repeat' first
   | (with_reducible exact ih0 _ _ _)
   | (with_reducible exact ih1 _ _ _ _)
   | (with_reducible exact ih2 _ _ _)
   | (with_reducible exact ih3 _ _ _)
   | (with_reducible exact ih4 _ _ _)
   | (with_reducible exact ih5 _ _ _)
   | (with_reducible exact ih6 _ _ _ _)
   | (with_reducible exact ih7 _ _ _ _ _ _)
   | (with_reducible exact gangsawref50_job.mono _ _ _)
   | (with_reducible exact gangsawref50_machine.mono _ _ _)
   | (with_reducible exact gangsawref50_named.mono _ _ _)
   | (with_reducible exact gangsawref50_ranged.mono _ _ _)
   | (with_reducible exact LeO.refl _)
   | (with_reducible exact LeO.none _)
   | (with_reducible refine LeO.ite ?_ ?_)
   | (with_reducible refine LeO.bind ?_ (fun _ => ?_))
   | exact ih0 _ _ _
   | exact ih1 _ _ _ _
   | exact ih2 _ _ _
   | exact ih3 _ _ _
   | exact ih4 _ _ _
   | exact ih5 _ _ _
   | exact ih6 _ _ _ _
   | exact ih7 _ _ _ _ _ _
   | exact gangsawref50_job.mono _ _ _
   | exact gangsawref50_machine.mono _ _ _
   | exact gangsawref50_named.mono _ _ _
   | exact gangsawref50_ranged.mono _ _ _
   | exact LeO.none _
   | refine LeO.ite ?_ ?_
   | refine LeO.bind ?_ (fun _ => ?_)
  ·intro y0 y1 y2
   unfold gangsawref50_Check.l3
   repeat' first
   | (with_reducible exact ih0 _ _ _)
   | (with_reducible exact ih1 _ _ _ _)
   | (with_reducible exact ih2 _ _ _)
   | (with_reducible exact ih3 _ _ _)
   | (with_reducible exact ih4 _ _ _)
   | (with_reducible exact ih5 _ _ _)
   | (with_reducible exact ih6 _ _ _ _)
   | (with_reducible exact ih7 _ _ _ _ _ _)
   | (with_reducible exact gangsawref50_job.mono _ _ _)
   | (with_reducible exact gangsawref50_machine.mono _ _ _)
   | (with_reducible exact gangsawref50_named.mono _ _ _)
   | (with_reducible exact gangsawref50_ranged.mono _ _ _)
   | (with_reducible exact LeO.refl _)
   | (with_reducible exact LeO.none _)
   | (with_reducible refine LeO.ite ?_ ?_)
   | (with_reducible refine LeO.bind ?_ (fun _ => ?_))
   | exact ih0 _ _ _
   | exact ih1 _ _ _ _
   | exact ih2 _ _ _
   | exact ih3 _ _ _
   | exact ih4 _ _ _
   | exact ih5 _ _ _
   | exact ih6 _ _ _ _
   | exact ih7 _ _ _ _ _ _
   | exact gangsawref50_job.mono _ _ _
   | exact gangsawref50_machine.mono _ _ _
   | exact gangsawref50_named.mono _ _ _
   | exact gangsawref50_ranged.mono _ _ _
   | exact LeO.none _
   | refine LeO.ite ?_ ?_
   | refine LeO.bind ?_ (fun _ => ?_)
  ·intro y0 y1 y2
   unfold gangsawref50_Check.l4
   repeat' first
   | (with_reducible exact ih0 _ _ _)
   | (with_reducible exact ih1 _ _ _ _)
   | (with_reducible exact ih2 _ _ _)
   | (with_reducible exact ih3 _ _ _)
   | (with_reducible exact ih4 _ _ _)
   | (with_reducible exact ih5 _ _ _)
   | (with_reducible exact ih6 _ _ _ _)
   | (with_reducible exact ih7 _ _ _ _ _ _)
   | (with_reducible exact gangsawref50_job.mono _ _ _)
   | (with_reducible exact gangsawref50_machine.mono _ _ _)
   | (with_reducible exact gangsawref50_named.mono _ _ _)
   | (with_reducible exact gangsawref50_ranged.mono _ _ _)
   | (with_reducible exact LeO.refl _)
   | (with_reducible exact LeO.none _)
   | (with_reducible refine LeO.ite ?_ ?_)
   | (with_reducible refine LeO.bind ?_ (fun _ => ?_))
   | exact ih0 _ _ _
   | exact ih1 _ _ _ _
   | exact ih2 _ _ _
   | exact ih3 _ _ _
   | exact ih4 _ _ _
   | exact ih5 _ _ _
   | exact ih6 _ _ _ _
   | exact ih7 _ _ _ _ _ _
   | exact gangsawref50_job.mono _ _ _
   | exact gangsawref50_machine.mono _ _ _
   | exact gangsawref50_named.mono _ _ _
   | exact gangsawref50_ranged.mono _ _ _
   | exact LeO.none _
   | refine LeO.ite ?_ ?_
   | refine LeO.bind ?_ (fun _ => ?_)
  ·intro y0 y1 y2 y3
   unfold gangsawref50_Check.l5
   repeat' first
   | (with_reducible exact ih0 _ _ _)
   | (with_reducible exact ih1 _ _ _ _)
   | (with_reducible exact ih2 _ _ _)
   | (with_reducible exact ih3 _ _ _)
   | (with_reducible exact ih4 _ _ _)
   | (with_reducible exact ih5 _ _ _)
   | (with_reducible exact ih6 _ _ _ _)
   | (with_reducible exact ih7 _ _ _ _ _ _)
   | (with_reducible exact gangsawref50_job.mono _ _ _)
   | (with_reducible exact gangsawref50_machine.mono _ _ _)
   | (with_reducible exact gangsawref50_named.mono _ _ _)
   | (with_reducible exact gangsawref50_ranged.mono _ _ _)
   | (with_reducible exact LeO.refl _)
   | (with_reducible exact LeO.none _)
   | (with_reducible refine LeO.ite ?_ ?_)
   | (with_reducible refine LeO.bind ?_ (fun _ => ?_))
   | exact ih0 _ _ _
   | exact ih1 _ _ _ _
   | exact ih2 _ _ _
   | exact ih3 _ _ _
   | exact ih4 _ _ _
   | exact ih5 _ _ _
   | exact ih6 _ _ _ _
   | exact ih7 _ _ _ _ _ _
   | exact gangsawref50_job.mono _ _ _
   | exact gangsawref50_machine.mono _ _ _
   | exact gangsawref50_named.mono _ _ _
   | exact gangsawref50_ranged.mono _ _ _
   | exact LeO.none _
   | refine LeO.ite ?_ ?_
   | refine LeO.bind ?_ (fun _ => ?_)
  ·intro y0 y1 y2 y3 y4 y5
   unfold gangsawref50_Check.l6
   repeat' first
   | (with_reducible exact ih0 _ _ _)
   | (with_reducible exact ih1 _ _ _ _)
   | (with_reducible exact ih2 _ _ _)
   | (with_reducible exact ih3 _ _ _)
   | (with_reducible exact ih4 _ _ _)
   | (with_reducible exact ih5 _ _ _)
   | (with_reducible exact ih6 _ _ _ _)
   | (with_reducible exact ih7 _ _ _ _ _ _)
   | (with_reducible exact gangsawref50_job.mono _ _ _)
   | (with_reducible exact gangsawref50_machine.mono _ _ _)
   | (with_reducible exact gangsawref50_named.mono _ _ _)
   | (with_reducible exact gangsawref50_ranged.mono _ _ _)
   | (with_reducible exact LeO.refl _)
   | (with_reducible exact LeO.none _)
   | (with_reducible refine LeO.ite ?_ ?_)
   | (with_reducible refine LeO.bind ?_ (fun _ => ?_))
   | exact ih0 _ _ _
   | exact ih1 _ _ _ _
   | exact ih2 _ _ _
   | exact ih3 _ _ _
   | exact ih4 _ _ _
   | exact ih5 _ _ _
   | exact ih6 _ _ _ _
   | exact ih7 _ _ _ _ _ _
   | exact gangsawref50_job.mono _ _ _
   | exact gangsawref50_machine.mono _ _ _
   | exact gangsawref50_named.mono _ _ _
   | exact gangsawref50_ranged.mono _ _ _
   | exact LeO.none _
   | refine LeO.ite ?_ ?_
   | refine LeO.bind ?_ (fun _ => ?_)
theorem gangsawref50_Check.mono : ∀ a0 a1 k, LeO (gangsawref50_Check.f k a0 a1) (gangsawref50_Check.f (k + 1) a0 a1) := by
 intro a0 a1 k
 obtain ⟨ih0, ih1, ih2, ih3, ih4, ih5, ih6, ih7⟩ := gangsawref50_Check.mono_l k
 unfold gangsawref50_Check.f
 repeat' first
   | (with_reducible exact ih0 _ _ _)
   | (with_reducible exact ih1 _ _ _ _)
   | (with_reducible exact ih2 _ _ _)
   | (with_reducible exact ih3 _ _ _)
   | (with_reducible exact ih4 _ _ _)
   | (with_reducible exact ih5 _ _ _)
   | (with_reducible exact ih6 _ _ _ _)
   | (with_reducible exact ih7 _ _ _ _ _ _)
   | (with_reducible exact gangsawref50_job.mono _ _ _)
   | (with_reducible exact gangsawref50_machine.mono _ _ _)
   | (with_reducible exact gangsawref50_named.mono _ _ _)
   | (with_reducible exact gangsawref50_ranged.mono _ _ _)
   | (with_reducible exact LeO.refl _)
   | (with_reducible exact LeO.none _)
   | (with_reducible refine LeO.ite ?_ ?_)
   | (with_reducible refine LeO.bind ?_ (fun _ => ?_))
   | exact ih0 _ _ _
   | exact ih1 _ _ _ _
   | exact ih2 _ _ _
   | exact ih3 _ _ _
   | exact ih4 _ _ _
   | exact ih5 _ _ _
   | exact ih6 _ _ _ _
   | exact ih7 _ _ _ _ _ _
   | exact gangsawref50_job.mono _ _ _
   | exact gangsawref50_machine.mono _ _ _
   | exact gangsawref50_named.mono _ _ _
   | exact gangsawref50_ranged.mono _ _ _
   | exact LeO.none _
   | refine LeO.ite ?_ ?_
   | refine LeO.bind ?_ (fun _ => ?_)
set_option maxHeartbeats 8000000 in
set_option maxRecDepth 100000 in
theorem gangsawref50_Check.calls (k : Nat) (A0 : Option Addr) (c0 : Nat) (l0 : List (S42)) (A1 : Option Addr) (c1 : Nat) (l1 : List (S38)) (r : Int) (w : World) (hr0 : Kd.C k42 w A0 l0.length l0) (hc0 : l0.length ≤ c0) (hr1 : Kd.C k38 w A1 l1.length l1) (hc1 : l1.length ≤ c1) (h : gangsawref50_Check.f k l0 l1 = some r) :
  Calls Tryz.prog 21 #[.slice A0 l0.length c0, .slice A1 l1.length c1] w fun e w' => e = .returned (.int .i64 r) ∧ Below w.heap.size w w' := by
 have HR0 := aK hr0
 have HC0 := aK hc0
 clear hr0 hc0
 have HR1 := aK hr1
 have HC1 := aK hc1
 clear hr1 hc1
 have HB := aK (Below.refl w.heap.size w)
 have H : (if (l0.length : Int) > 32 then (gangsawref50_Check.j0 k l0 l1 true) else (gangsawref50_Check.j0 k l0 l1 (decide ((l1.length : Int) > 128)))) = some r := h
 clear h
 have HC3 := aK H
 clear H
 go_enter Tryz.func21, Tryz.ntmps21
 go_upto_region 1 with (fail)
 go_cut [5] (fun v5 wc => ∃ (kq : Nat) (x5_2 : Bool), v5 = .bool x5_2 ∧ Aside0 (gangsawref50_Check.j0 kq l0 l1 x5_2 = some r) ∧ Aside0 (kq ≤ k) ∧ Aside0 (Below w.heap.size w wc))
 case first =>
  have H := HC3.out
  clear HC3
  by_cases c4 : (l0.length : Int) > 32
  ·rw [if_pos c4] at H
   have c4b0 : decide (32 < (l0.length : Int)) = true := decide_eq_true c4
   have c4b1 : decide (32 < l0.length) = true := decide_eq_true (by omega)
   clear c4
   (first | rw [c4b0] | (simp only [i64_w, i32_w]; rw [c4b0]) | skip)
   have H' := aK H
   clear H
   go_wp2
   go_meet
   case rel => exact ⟨_, (true), (by first | rfl | (simp; done) | (simp [*]; done)), H', ⟨by first | omega | exact Nat.le_refl _⟩, ⟨by repeat (first | (with_reducible first | exact HB.out | apply yA | apply yN | apply yD) | exact HB.out)⟩⟩
  ·rw [if_neg c4] at H
   have c4b0 : decide (32 < (l0.length : Int)) = false := decide_eq_false c4
   have c4b1 : decide (32 < l0.length) = false := decide_eq_false (by omega)
   clear c4
   (first | rw [c4b0] | (simp only [i64_w, i32_w]; rw [c4b0]) | skip)
   have H' := aK H
   clear H
   go_wp2
   go_meet
   case rel => exact ⟨_, (decide ((l1.length : Int) > 128)), (by first | rfl | (simp; done) | (simp [*]; done)), H', ⟨by first | omega | exact Nat.le_refl _⟩, ⟨by repeat (first | (with_reducible first | exact HB.out | apply yA | apply yN | apply yD) | exact HB.out)⟩⟩
 case rest =>
  clear HC3
  try clear c1
  try clear c2
  try clear p2
  try clear c4
  try clear c4b0
  try clear c4b1
  obtain ⟨kq, x5_2, rfl, HA, HJ2, HB⟩ := hcut
  cases kq with
  | zero => exact absurd HA.out (by simp [gangsawref50_Check.j0])
  | succ kj2 =>
   have H := HA.out
   clear HA
   simp only [gangsawref50_Check.j0] at H
   have H' := aK H
   clear H
   go_wp2
   go_loopg [5, 6] kj2 (fun kq v5 v6 w' => ∃ (x5_2 : Bool) (x6_2 : Int), v5 = .bool x5_2 ∧ v6 = .int .i64 x6_2 ∧ Aside0 (gangsawref50_Check.l0 kq l0 l1 x5_2 x6_2 = some r) ∧ Aside0 (kq ≤ kj2) ∧ Aside0 (Below w.heap.size w w'))
   case atStart => exact ⟨(x5_2), (0), (by first | rfl | (simp; done) | (simp [*]; done)), (by first | rfl | (simp; done) | (simp [*]; done)), H', ⟨Nat.le_refl _⟩, ⟨by repeat (first | (with_reducible first | exact HB.out | apply yA | apply yN | apply yD) | exact HB.out)⟩⟩
   case round =>
    clear H'
    try clear c1
    try clear c2
    try clear p2
    try clear c4
    try clear c4b0
    try clear c4b1
    try clear p2
    obtain ⟨x5_2, x6_2, rfl, rfl, HA, HK2, HB⟩ := hrel
    cases gk with
    | zero => exact absurd HA.out (by simp [gangsawref50_Check.l0])
    | succ k2 =>
     have H := HA.out
     clear HA
     simp only [gangsawref50_Check.l0] at H
     by_cases c5 : x6_2 < (l1.length : Int)
     ·rw [if_pos c5] at H
      have c5b0 : decide (x6_2 < (l1.length : Int)) = true := decide_eq_true c5
      clear c5
      by_cases c6 : x5_2 = true
      ·subst c6
       have H1 : (gangsawref50_Check.l0 k2 l0 l1 true (wrap64 (x6_2 + 1))) = some r := by rw [if_pos rfl] at H; exact H
       clear H
       have H := H1
       clear H1
       have H' := aK H
       clear H
       go_wp2
       go_roundg k2
       case measure => have := HJ2.out; have := HK2.out; omega
       case rel => exact ⟨(true), (wrap64 (x6_2 + 1)), (by first | rfl | (simp; done) | (simp [*]; done)), (by first | rfl | (simp; done) | (simp [*]; done)), H', ⟨by have := HJ2.out; have := HK2.out; omega⟩, ⟨by repeat (first | (with_reducible first | exact HB.out | apply yA | apply yN | apply yD) | exact HB.out)⟩⟩
      ·replace c6 := Bool.eq_false_iff.mpr c6
       subst c6
       have H1 : (if 0 ≤ x6_2 then (gangsawref50_Check.l0 k2 l0 l1 (decide ((((rd_T38 l1 x6_2).f1).length : Int) > 16)) (wrap64 (x6_2 + 1))) else (none)) = some r := by rw [if_neg (show ¬ (false = true) by decide)] at H; exact H
       clear H
       have H := H1
       clear H1
       by_cases c7 : 0 ≤ x6_2
       ·rw [if_pos c7] at H
        have c7b0 : decide (0 ≤ x6_2) = true := decide_eq_true c7
        clear c7
        have H' := aK H
        clear H
        have p163 : 0 ≤ (x6_2 : Int) := of_decide_eq_true (by first | (with_reducible assumption) | assumption)
        have q163 : x6_2 < (l1.length : Int) := of_decide_eq_true (by first | (with_reducible assumption) | assumption)
        obtain ⟨ad163, A163_1, c163_1, e163, hx163_0, hx163_1, hx163_2, hx163_3, hx163_4, hl163_1, hi163_1⟩ := at_T38 HR1.out x6_2 p163 q163
        cases e163
        replace hx163_0 := (HB.out.cell (World.block_lt_of_cell? w _ hx163_0)).trans hx163_0
        replace hx163_1 := (HB.out.cell (World.block_lt_of_cell? w _ hx163_1)).trans hx163_1
        replace hx163_2 := (HB.out.cell (World.block_lt_of_cell? w _ hx163_2)).trans hx163_2
        replace hx163_3 := (HB.out.cell (World.block_lt_of_cell? w _ hx163_3)).trans hx163_3
        replace hx163_4 := (HB.out.cell (World.block_lt_of_cell? w _ hx163_4)).trans hx163_4
        have HR163_1 := aK hi163_1
        have HC163_1 := aK hl163_1
        clear hi163_1 hl163_1
        replace p163 := eq_true p163
        replace q163 := eq_true q163
        go_wp2
        go_roundg k2
        case measure => have := HJ2.out; have := HK2.out; omega
        case rel => exact ⟨(decide ((((rd_T38 l1 x6_2).f1).length : Int) > 16)), (wrap64 (x6_2 + 1)), (by first | rfl | (simp; done) | (simp [*]; done)), (by first | rfl | (simp; done) | (simp [*]; done)), H', ⟨by have := HJ2.out; have := HK2.out; omega⟩, ⟨by repeat (first | (with_reducible first | exact HB.out | apply yA | apply yN | apply yD) | exact HB.out)⟩⟩
       ·rw [if_neg c7] at H
        exact absurd H (by simp)
     ·rw [if_neg c5] at H
      have c5b0 : decide (x6_2 < (l1.length : Int)) = false := decide_eq_false c5
      clear c5
      by_cases c8 : x5_2 = true
      ·subst c8
       have H1 : (some 7) = some r := by rw [if_pos rfl] at H; exact H
       clear H
       have H := H1
       clear H1
       obtain rfl := Option.some.inj H
       simp only [Option.some.injEq, Prod.mk.injEq] at H
       obtain ⟨rfl⟩ := H
       go_wp2
       go_ret
       exact ⟨by first | rfl | (simp [errW_none, errW_some] <;> rfl) | (simp [*, errW_none, errW_some] <;> rfl), by repeat (first | (with_reducible first | exact HB.out | apply yA | apply yN | apply yD) | exact HB.out)⟩
      ·replace c8 := Bool.eq_false_iff.mpr c8
       subst c8
       have H1 : ((gangsawref50_named.f k2 l0 l1).bind fun t164 => (if t164 = true then ((gangsawref50_ranged.f k2 l0 l1).bind fun t165 => (if t165 = true then (gangsawref50_Check.l1 k2 l0 l1 0) else (some 6))) else (some 4))) = some r := by rw [if_neg (show ¬ (false = true) by decide)] at H; exact H
       clear H
       have H := H1
       clear H1
       replace H := Option.bind_eq_some_iff.mp H
       obtain ⟨t164, A90, H⟩ := H
       replace H : (if t164 = true then ((gangsawref50_ranged.f k2 l0 l1).bind fun t165 => (if t165 = true then (gangsawref50_Check.l1 k2 l0 l1 0) else (some 6))) else (some 4)) = some r := H
       have A9 := aK A90
       clear A90
       by_cases c10 : t164 = true
       ·subst c10
        have H1 : ((gangsawref50_ranged.f k2 l0 l1).bind fun t165 => (if t165 = true then (gangsawref50_Check.l1 k2 l0 l1 0) else (some 6))) = some r := by rw [if_pos rfl] at H; exact H
        clear H
        have H := H1
        clear H1
        replace H := Option.bind_eq_some_iff.mp H
        obtain ⟨t165, A110, H⟩ := H
        replace H : (if t165 = true then (gangsawref50_Check.l1 k2 l0 l1 0) else (some 6)) = some r := H
        have A11 := aK A110
        clear A110
        by_cases c12 : t165 = true
        ·subst c12
         have H1 : (gangsawref50_Check.l1 k2 l0 l1 0) = some r := by rw [if_pos rfl] at H; exact H
         clear H
         have H := H1
         clear H1
         have H' := aK H
         clear H
         go_wp2_with (first | (go_at_call 82; (with_reducible refine (gangsawref50_named.calls k2 _ _ l0 _ _ l1 true _ ?side1 ?side2 ?side3 ?side4 A9.out).mono ?_); (case side1 => repeat (first | exact (Kd.C_below HR0.out HB.out) | (with_reducible refine Kd.C_alloc ?_ _) | (with_reducible refine Kd.C_drewN ?_ _) | (with_reducible refine Kd.C_drew ?_))); (case side2 => exact HC0.out); (case side3 => repeat (first | exact (Kd.C_below HR1.out HB.out) | (with_reducible refine Kd.C_alloc ?_ _) | (with_reducible refine Kd.C_drewN ?_ _) | (with_reducible refine Kd.C_drew ?_))); (case side4 => exact HC1.out); rintro e w' ⟨rfl, ⟨nd, rfl⟩⟩; (try first | exact ⟨rfl, _, World.drewN_drewN _ _ _⟩ | exact ⟨rfl, _, Eq.trans (World.drewN_drewN _ _ _) (congrArg (World.drewN _) (Nat.add_assoc _ _ _))⟩)) | (go_at_call 83; (with_reducible refine (gangsawref50_ranged.calls k2 _ _ l0 _ _ l1 true _ ?side1 ?side2 ?side3 ?side4 A11.out).mono ?_); (case side1 => repeat (first | exact (Kd.C_below HR0.out (by repeat (first | (with_reducible first | exact HB.out | apply yA | apply yN | apply yD) | exact HB.out))) | (with_reducible refine Kd.C_alloc ?_ _) | (with_reducible refine Kd.C_drewN ?_ _) | (with_reducible refine Kd.C_drew ?_))); (case side2 => exact HC0.out); (case side3 => repeat (first | exact (Kd.C_below HR1.out (by repeat (first | (with_reducible first | exact HB.out | apply yA | apply yN | apply yD) | exact HB.out))) | (with_reducible refine Kd.C_alloc ?_ _) | (with_reducible refine Kd.C_drewN ?_ _) | (with_reducible refine Kd.C_drew ?_))); (case side4 => exact HC1.out); rintro e w13 ⟨rfl, hb⟩; have n0_ := aK (yT (by repeat (first | (with_reducible first | exact HB.out | apply yA | apply yN | apply yD) | exact HB.out)) hb); clear HB; have HB := n0_; clear n0_; (try clear hb); (try clear hb2); (try clear hk); (try clear hi)))
         go_loopg [7] k2 (fun kq v7 w' => ∃ (x7_3 : Int), v7 = .int .i64 x7_3 ∧ Aside0 (gangsawref50_Check.l1 kq l0 l1 x7_3 = some r) ∧ Aside0 (kq ≤ k2) ∧ Aside0 (Below w.heap.size w w'))
         case atStart => exact ⟨(0), (by first | rfl | (simp; done) | (simp [*]; done)), H', ⟨Nat.le_refl _⟩, ⟨by repeat (first | (with_reducible first | exact HB.out | apply yA | apply yN | apply yD) | exact HB.out)⟩⟩
         case round =>
          clear H'
          try clear c1
          try clear p1
          try clear q1
          try clear hx1
          try clear c2
          try clear p2
          try clear c4
          try clear c4b0
          try clear c4b1
          try clear c5
          try clear c5b0
          try clear c6
          try clear p6
          try clear c7
          try clear c7b0
          try clear c8
          try clear c10
          try clear c12
          try clear hx163_0
          try clear hx163_1
          try clear hx163_2
          try clear hx163_3
          try clear hx163_4
          try clear p163
          try clear p2
          try clear q163
          obtain ⟨x7_3, rfl, HA, HK3, HB⟩ := hrel
          cases gk with
          | zero => exact absurd HA.out (by simp [gangsawref50_Check.l1])
          | succ k3 =>
           have H := HA.out
           clear HA
           simp only [gangsawref50_Check.l1] at H
           by_cases c14 : x7_3 < (l1.length : Int)
           ·rw [if_pos c14] at H
            have c14b0 : decide (x7_3 < (l1.length : Int)) = true := decide_eq_true c14
            clear c14
            by_cases c15 : 0 ≤ x7_3
            ·rw [if_pos c15] at H
             have c15b0 : decide (0 ≤ x7_3) = true := decide_eq_true c15
             clear c15
             by_cases c16 : (((rd_T38 l1 x7_3).f1).length : Int) = 0
             ·rw [if_pos c16] at H
              have c16b0 : ((((rd_T38 l1 x7_3).f1).length : Int) == 0) = true := beq_iff_eq.mpr c16
              have c16b1 : ((((rd_T38 l1 x7_3).f1).length : Int) != 0) = false := bne_eq_false_iff_eq.mpr c16
              clear c16
              obtain rfl := Option.some.inj H
              simp only [Option.some.injEq, Prod.mk.injEq] at H
              obtain ⟨rfl⟩ := H
              have p166 : 0 ≤ (x7_3 : Int) := of_decide_eq_true (by first | (with_reducible assumption) | assumption)
              have q166 : x7_3 < (l1.length : Int) := of_decide_eq_true (by first | (with_reducible assumption) | assumption)
              obtain ⟨ad166, A166_1, c166_1, e166, hx166_0, hx166_1, hx166_2, hx166_3, hx166_4, hl166_1, hi166_1⟩ := at_T38 HR1.out x7_3 p166 q166
              cases e166
              replace hx166_0 := (HB.out.cell (World.block_lt_of_cell? w _ hx166_0)).trans hx166_0
              replace hx166_1 := (HB.out.cell (World.block_lt_of_cell? w _ hx166_1)).trans hx166_1
              replace hx166_2 := (HB.out.cell (World.block_lt_of_cell? w _ hx166_2)).trans hx166_2
              replace hx166_3 := (HB.out.cell (World.block_lt_of_cell? w _ hx166_3)).trans hx166_3
              replace hx166_4 := (HB.out.cell (World.block_lt_of_cell? w _ hx166_4)).trans hx166_4
              have HR166_1 := aK hi166_1
              have HC166_1 := aK hl166_1
              clear hi166_1 hl166_1
              replace p166 := eq_true p166
              replace q166 := eq_true q166
              go_wp2
              go_ret
              exact ⟨by first | rfl | (simp [errW_none, errW_some] <;> rfl) | (simp [*, errW_none, errW_some] <;> rfl), by repeat (first | (with_reducible first | exact HB.out | apply yA | apply yN | apply yD) | exact HB.out)⟩
             ·rw [if_neg c16] at H
              have c16b0 : ((((rd_T38 l1 x7_3).f1).length : Int) == 0) = false := beq_eq_false_iff_ne.mpr c16
              have c16b1 : ((((rd_T38 l1 x7_3).f1).length : Int) != 0) = true := bne_iff_ne.mpr c16
              have c16b2 : ¬ (((rd_T38 l1 x7_3).f1) = []) := fun h_ => c16 (by rw [h_]; rfl)
              have H' := aK H
              clear H
              have p166 : 0 ≤ (x7_3 : Int) := of_decide_eq_true (by first | (with_reducible assumption) | assumption)
              have q166 : x7_3 < (l1.length : Int) := of_decide_eq_true (by first | (with_reducible assumption) | assumption)
              obtain ⟨ad166, A166_1, c166_1, e166, hx166_0, hx166_1, hx166_2, hx166_3, hx166_4, hl166_1, hi166_1⟩ := at_T38 HR1.out x7_3 p166 q166
              cases e166
              replace hx166_0 := (HB.out.cell (World.block_lt_of_cell? w _ hx166_0)).trans hx166_0
              replace hx166_1 := (HB.out.cell (World.block_lt_of_cell? w _ hx166_1)).trans hx166_1
              replace hx166_2 := (HB.out.cell (World.block_lt_of_cell? w _ hx166_2)).trans hx166_2
              replace hx166_3 := (HB.out.cell (World.block_lt_of_cell? w _ hx166_3)).trans hx166_3
              replace hx166_4 := (HB.out.cell (World.block_lt_of_cell? w _ hx166_4)).trans hx166_4
              have HR166_1 := aK hi166_1
              have HC166_1 := aK hl166_1
              clear hi166_1 hl166_1
              replace p166 := eq_true p166
              replace q166 := eq_true q166
              go_wp2
              go_roundg k3
              case measure => have := HJ2.out; have := HK2.out; have := HK3.out; omega
              case rel => exact ⟨(wrap64 (x7_3 + 1)), (by first | rfl | (simp; done) | (simp [*]; done)), H', ⟨by have := HJ2.out; have := HK2.out; have := HK3.out; omega⟩, ⟨by repeat (first | (with_reducible first | exact HB.out | apply yA | apply yN | apply yD) | exact HB.out)⟩⟩
            ·rw [if_neg c15] at H
             exact absurd H (by simp)
           ·rw [if_neg c14] at H
            have c14b0 : decide (x7_3 < (l1.length : Int)) = false := decide_eq_false c14
            clear c14
            have H' := aK H
            clear H
            go_wp2
            go_loopg [8] k3 (fun kq v8 w' => ∃ (x8_4 : Int), v8 = .int .i64 x8_4 ∧ Aside0 (gangsawref50_Check.l2 kq l0 l1 x8_4 = some r) ∧ Aside0 (kq ≤ k3) ∧ Aside0 (Below w.heap.size w w'))
            case atStart => exact ⟨(0), (by first | rfl | (simp; done) | (simp [*]; done)), H', ⟨Nat.le_refl _⟩, ⟨by repeat (first | (with_reducible first | exact HB.out | apply yA | apply yN | apply yD) | exact HB.out)⟩⟩
            case round =>
             clear H'
             try clear c1
             try clear p1
             try clear q1
             try clear hx1
             try clear c2
             try clear p2
             try clear c4
             try clear c4b0
             try clear c4b1
             try clear c5
             try clear c5b0
             try clear c6
             try clear p6
             try clear c7
             try clear c7b0
             try clear c8
             try clear c10
             try clear c12
             try clear c14
             try clear c14b0
             try clear c15
             try clear c15b0
             try clear c16
             try clear c16b0
             try clear c16b1
             try clear c16b2
             try clear p16
             try clear q16
             try clear hx16
             try clear hx163_0
             try clear hx163_1
             try clear hx163_2
             try clear hx163_3
             try clear hx163_4
             try clear hx166_0
             try clear hx166_1
             try clear hx166_2
             try clear hx166_3
             try clear hx166_4
             try clear p1
             try clear p163
             try clear p166
             try clear p2
             try clear p6
             try clear q1
             try clear q163
             try clear q166
             obtain ⟨x8_4, rfl, HA, HK4, HB⟩ := hrel
             cases gk with
             | zero => exact absurd HA.out (by simp [gangsawref50_Check.l2])
             | succ k4 =>
              have H := HA.out
              clear HA
              simp only [gangsawref50_Check.l2] at H
              by_cases c17 : x8_4 < (l0.length : Int)
              ·rw [if_pos c17] at H
               have c17b0 : decide (x8_4 < (l0.length : Int)) = true := decide_eq_true c17
               clear c17
               by_cases c18 : 0 ≤ x8_4
               ·rw [if_pos c18] at H
                have c18b0 : decide (0 ≤ x8_4) = true := decide_eq_true c18
                clear c18
                replace H := Option.bind_eq_some_iff.mp H
                obtain ⟨t168, A190, H⟩ := H
                replace H : (if t168 = x8_4 then (gangsawref50_Check.l2 k4 l0 l1 (wrap64 (x8_4 + 1))) else (some 5)) = some r := H
                have A19 := aK A190
                clear A190
                by_cases c20 : t168 = x8_4
                ·rw [if_pos c20] at H
                 have c20b0 : (t168 == x8_4) = true := beq_iff_eq.mpr c20
                 have c20b1 : (t168 != x8_4) = false := bne_eq_false_iff_eq.mpr c20
                 clear c20
                 have H' := aK H
                 clear H
                 have p167 : 0 ≤ (x8_4 : Int) := of_decide_eq_true (by first | (with_reducible assumption) | assumption)
                 have q167 : x8_4 < (l0.length : Int) := of_decide_eq_true (by first | (with_reducible assumption) | assumption)
                 obtain ⟨ad167, e167, hx167_0, hx167_1, hx167_2⟩ := at_T42 HR0.out x8_4 p167 q167
                 cases e167
                 replace hx167_0 := (HB.out.cell (World.block_lt_of_cell? w _ hx167_0)).trans hx167_0
                 replace hx167_1 := (HB.out.cell (World.block_lt_of_cell? w _ hx167_1)).trans hx167_1
                 replace hx167_2 := (HB.out.cell (World.block_lt_of_cell? w _ hx167_2)).trans hx167_2
                 replace p167 := eq_true p167
                 replace q167 := eq_true q167
                 go_wp2_with (first | (go_at_call 84; (with_reducible refine (gangsawref50_machine.calls k4 _ _ l0 ((rd_T42 l0 x8_4).f0) t168 _ ?side1 ?side2 A19.out).mono ?_); (case side1 => repeat (first | exact (Kd.C_below HR0.out HB.out) | (with_reducible refine Kd.C_alloc ?_ _) | (with_reducible refine Kd.C_drewN ?_ _) | (with_reducible refine Kd.C_drew ?_))); (case side2 => exact HC0.out); rintro e w' ⟨rfl, ⟨nd, rfl⟩⟩; (try first | exact ⟨rfl, _, World.drewN_drewN _ _ _⟩ | exact ⟨rfl, _, Eq.trans (World.drewN_drewN _ _ _) (congrArg (World.drewN _) (Nat.add_assoc _ _ _))⟩)))
                 go_roundg k4
                 case measure => have := HJ2.out; have := HK2.out; have := HK3.out; have := HK4.out; omega
                 case rel => exact ⟨(wrap64 (x8_4 + 1)), (by first | rfl | (simp; done) | (simp [*]; done)), H', ⟨by have := HJ2.out; have := HK2.out; have := HK3.out; have := HK4.out; omega⟩, ⟨by repeat (first | (with_reducible first | exact HB.out | apply yA | apply yN | apply yD) | exact HB.out)⟩⟩
                ·rw [if_neg c20] at H
                 have c20b0 : (t168 == x8_4) = false := beq_eq_false_iff_ne.mpr c20
                 have c20b1 : (t168 != x8_4) = true := bne_iff_ne.mpr c20
                 obtain rfl := Option.some.inj H
                 simp only [Option.some.injEq, Prod.mk.injEq] at H
                 obtain ⟨rfl⟩ := H
                 have p167 : 0 ≤ (x8_4 : Int) := of_decide_eq_true (by first | (with_reducible assumption) | assumption)
                 have q167 : x8_4 < (l0.length : Int) := of_decide_eq_true (by first | (with_reducible assumption) | assumption)
                 obtain ⟨ad167, e167, hx167_0, hx167_1, hx167_2⟩ := at_T42 HR0.out x8_4 p167 q167
                 cases e167
                 replace hx167_0 := (HB.out.cell (World.block_lt_of_cell? w _ hx167_0)).trans hx167_0
                 replace hx167_1 := (HB.out.cell (World.block_lt_of_cell? w _ hx167_1)).trans hx167_1
                 replace hx167_2 := (HB.out.cell (World.block_lt_of_cell? w _ hx167_2)).trans hx167_2
                 replace p167 := eq_true p167
                 replace q167 := eq_true q167
                 go_wp2_with (first | (go_at_call 84; (with_reducible refine (gangsawref50_machine.calls k4 _ _ l0 ((rd_T42 l0 x8_4).f0) t168 _ ?side1 ?side2 A19.out).mono ?_); (case side1 => repeat (first | exact (Kd.C_below HR0.out HB.out) | (with_reducible refine Kd.C_alloc ?_ _) | (with_reducible refine Kd.C_drewN ?_ _) | (with_reducible refine Kd.C_drew ?_))); (case side2 => exact HC0.out); rintro e w' ⟨rfl, ⟨nd, rfl⟩⟩; (try first | exact ⟨rfl, _, World.drewN_drewN _ _ _⟩ | exact ⟨rfl, _, Eq.trans (World.drewN_drewN _ _ _) (congrArg (World.drewN _) (Nat.add_assoc _ _ _))⟩)))
                 go_ret
                 exact ⟨by first | rfl | (simp [errW_none, errW_some] <;> rfl) | (simp [*, errW_none, errW_some] <;> rfl), by repeat (first | (with_reducible first | exact HB.out | apply yA | apply yN | apply yD) | exact HB.out)⟩
               ·rw [if_neg c18] at H
                exact absurd H (by simp)
              ·rw [if_neg c17] at H
               have c17b0 : decide (x8_4 < (l0.length : Int)) = false := decide_eq_false c17
               clear c17
               have H' := aK H
               clear H
               go_wp2
               go_loopg [9] k4 (fun kq v9 w' => ∃ (x9_5 : Int), v9 = .int .i64 x9_5 ∧ Aside0 (gangsawref50_Check.l3 kq l0 l1 x9_5 = some r) ∧ Aside0 (kq ≤ k4) ∧ Aside0 (Below w.heap.size w w'))
               case atStart => exact ⟨(0), (by first | rfl | (simp; done) | (simp [*]; done)), H', ⟨Nat.le_refl _⟩, ⟨by repeat (first | (with_reducible first | exact HB.out | apply yA | apply yN | apply yD) | exact HB.out)⟩⟩
               case round =>
                clear H'
                try clear c1
                try clear p1
                try clear q1
                try clear hx1
                try clear c2
                try clear p2
                try clear c4
                try clear c4b0
                try clear c4b1
                try clear c5
                try clear c5b0
                try clear c6
                try clear p6
                try clear c7
                try clear c7b0
                try clear c8
                try clear c10
                try clear c12
                try clear c14
                try clear c14b0
                try clear c15
                try clear c15b0
                try clear c16
                try clear c16b0
                try clear c16b1
                try clear c16b2
                try clear p16
                try clear q16
                try clear hx16
                try clear c17
                try clear c17b0
                try clear c18
                try clear c18b0
                try clear c20
                try clear c20b0
                try clear c20b1
                try clear hx163_0
                try clear hx163_1
                try clear hx163_2
                try clear hx163_3
                try clear hx163_4
                try clear hx166_0
                try clear hx166_1
                try clear hx166_2
                try clear hx166_3
                try clear hx166_4
                try clear hx167_0
                try clear hx167_1
                try clear hx167_2
                try clear p1
                try clear p16
                try clear p163
                try clear p166
                try clear p167
                try clear p2
                try clear p6
                try clear q1
                try clear q16
                try clear q163
                try clear q166
                try clear q167
                obtain ⟨x9_5, rfl, HA, HK5, HB⟩ := hrel
                cases gk with
                | zero => exact absurd HA.out (by simp [gangsawref50_Check.l3])
                | succ k5 =>
                 have H := HA.out
                 clear HA
                 simp only [gangsawref50_Check.l3] at H
                 by_cases c21 : x9_5 < (l1.length : Int)
                 ·rw [if_pos c21] at H
                  have c21b0 : decide (x9_5 < (l1.length : Int)) = true := decide_eq_true c21
                  clear c21
                  by_cases c22 : 0 ≤ x9_5
                  ·rw [if_pos c22] at H
                   have c22b0 : decide (0 ≤ x9_5) = true := decide_eq_true c22
                   clear c22
                   replace H := Option.bind_eq_some_iff.mp H
                   obtain ⟨t170, A230, H⟩ := H
                   replace H : (if t170 = x9_5 then (gangsawref50_Check.l3 k5 l0 l1 (wrap64 (x9_5 + 1))) else (some 5)) = some r := H
                   have A23 := aK A230
                   clear A230
                   by_cases c24 : t170 = x9_5
                   ·rw [if_pos c24] at H
                    have c24b0 : (t170 == x9_5) = true := beq_iff_eq.mpr c24
                    have c24b1 : (t170 != x9_5) = false := bne_eq_false_iff_eq.mpr c24
                    clear c24
                    have H' := aK H
                    clear H
                    have p169 : 0 ≤ (x9_5 : Int) := of_decide_eq_true (by first | (with_reducible assumption) | assumption)
                    have q169 : x9_5 < (l1.length : Int) := of_decide_eq_true (by first | (with_reducible assumption) | assumption)
                    obtain ⟨ad169, A169_1, c169_1, e169, hx169_0, hx169_1, hx169_2, hx169_3, hx169_4, hl169_1, hi169_1⟩ := at_T38 HR1.out x9_5 p169 q169
                    cases e169
                    replace hx169_0 := (HB.out.cell (World.block_lt_of_cell? w _ hx169_0)).trans hx169_0
                    replace hx169_1 := (HB.out.cell (World.block_lt_of_cell? w _ hx169_1)).trans hx169_1
                    replace hx169_2 := (HB.out.cell (World.block_lt_of_cell? w _ hx169_2)).trans hx169_2
                    replace hx169_3 := (HB.out.cell (World.block_lt_of_cell? w _ hx169_3)).trans hx169_3
                    replace hx169_4 := (HB.out.cell (World.block_lt_of_cell? w _ hx169_4)).trans hx169_4
                    have HR169_1 := aK hi169_1
                    have HC169_1 := aK hl169_1
                    clear hi169_1 hl169_1
                    replace p169 := eq_true p169
                    replace q169 := eq_true q169
                    go_wp2_with (first | (go_at_call 85; (with_reducible refine (gangsawref50_job.calls k5 _ _ l1 ((rd_T38 l1 x9_5).f0) t170 _ ?side1 ?side2 A23.out).mono ?_); (case side1 => repeat (first | exact (Kd.C_below HR1.out HB.out) | (with_reducible refine Kd.C_alloc ?_ _) | (with_reducible refine Kd.C_drewN ?_ _) | (with_reducible refine Kd.C_drew ?_))); (case side2 => exact HC1.out); rintro e w' ⟨rfl, ⟨nd, rfl⟩⟩; (try first | exact ⟨rfl, _, World.drewN_drewN _ _ _⟩ | exact ⟨rfl, _, Eq.trans (World.drewN_drewN _ _ _) (congrArg (World.drewN _) (Nat.add_assoc _ _ _))⟩)))
                    go_roundg k5
                    case measure => have := HJ2.out; have := HK2.out; have := HK3.out; have := HK4.out; have := HK5.out; omega
                    case rel => exact ⟨(wrap64 (x9_5 + 1)), (by first | rfl | (simp; done) | (simp [*]; done)), H', ⟨by have := HJ2.out; have := HK2.out; have := HK3.out; have := HK4.out; have := HK5.out; omega⟩, ⟨by repeat (first | (with_reducible first | exact HB.out | apply yA | apply yN | apply yD) | exact HB.out)⟩⟩
                   ·rw [if_neg c24] at H
                    have c24b0 : (t170 == x9_5) = false := beq_eq_false_iff_ne.mpr c24
                    have c24b1 : (t170 != x9_5) = true := bne_iff_ne.mpr c24
                    obtain rfl := Option.some.inj H
                    simp only [Option.some.injEq, Prod.mk.injEq] at H
                    obtain ⟨rfl⟩ := H
                    have p169 : 0 ≤ (x9_5 : Int) := of_decide_eq_true (by first | (with_reducible assumption) | assumption)
                    have q169 : x9_5 < (l1.length : Int) := of_decide_eq_true (by first | (with_reducible assumption) | assumption)
                    obtain ⟨ad169, A169_1, c169_1, e169, hx169_0, hx169_1, hx169_2, hx169_3, hx169_4, hl169_1, hi169_1⟩ := at_T38 HR1.out x9_5 p169 q169
                    cases e169
                    replace hx169_0 := (HB.out.cell (World.block_lt_of_cell? w _ hx169_0)).trans hx169_0
                    replace hx169_1 := (HB.out.cell (World.block_lt_of_cell? w _ hx169_1)).trans hx169_1
                    replace hx169_2 := (HB.out.cell (World.block_lt_of_cell? w _ hx169_2)).trans hx169_2
                    replace hx169_3 := (HB.out.cell (World.block_lt_of_cell? w _ hx169_3)).trans hx169_3
                    replace hx169_4 := (HB.out.cell (World.block_lt_of_cell? w _ hx169_4)).trans hx169_4
                    have HR169_1 := aK hi169_1
                    have HC169_1 := aK hl169_1
                    clear hi169_1 hl169_1
                    replace p169 := eq_true p169
                    replace q169 := eq_true q169
                    go_wp2_with (first | (go_at_call 85; (with_reducible refine (gangsawref50_job.calls k5 _ _ l1 ((rd_T38 l1 x9_5).f0) t170 _ ?side1 ?side2 A23.out).mono ?_); (case side1 => repeat (first | exact (Kd.C_below HR1.out HB.out) | (with_reducible refine Kd.C_alloc ?_ _) | (with_reducible refine Kd.C_drewN ?_ _) | (with_reducible refine Kd.C_drew ?_))); (case side2 => exact HC1.out); rintro e w' ⟨rfl, ⟨nd, rfl⟩⟩; (try first | exact ⟨rfl, _, World.drewN_drewN _ _ _⟩ | exact ⟨rfl, _, Eq.trans (World.drewN_drewN _ _ _) (congrArg (World.drewN _) (Nat.add_assoc _ _ _))⟩)))
                    go_ret
                    exact ⟨by first | rfl | (simp [errW_none, errW_some] <;> rfl) | (simp [*, errW_none, errW_some] <;> rfl), by repeat (first | (with_reducible first | exact HB.out | apply yA | apply yN | apply yD) | exact HB.out)⟩
                  ·rw [if_neg c22] at H
                   exact absurd H (by simp)
                 ·rw [if_neg c21] at H
                  have c21b0 : decide (x9_5 < (l1.length : Int)) = false := decide_eq_false c21
                  clear c21
                  have H' := aK H
                  clear H
                  go_wp2
                  go_loopg [10] k5 (fun kq v10 w' => ∃ (x10_6 : Int), v10 = .int .i64 x10_6 ∧ Aside0 (gangsawref50_Check.l4 kq l0 l1 x10_6 = some r) ∧ Aside0 (kq ≤ k5) ∧ Aside0 (Below w.heap.size w w'))
                  case atStart => exact ⟨(0), (by first | rfl | (simp; done) | (simp [*]; done)), H', ⟨Nat.le_refl _⟩, ⟨by repeat (first | (with_reducible first | exact HB.out | apply yA | apply yN | apply yD) | exact HB.out)⟩⟩
                  case round =>
                   clear H'
                   try clear c1
                   try clear p1
                   try clear q1
                   try clear hx1
                   try clear c2
                   try clear p2
                   try clear c4
                   try clear c4b0
                   try clear c4b1
                   try clear c5
                   try clear c5b0
                   try clear c6
                   try clear p6
                   try clear c7
                   try clear c7b0
                   try clear c8
                   try clear c10
                   try clear c12
                   try clear c14
                   try clear c14b0
                   try clear c15
                   try clear c15b0
                   try clear c16
                   try clear c16b0
                   try clear c16b1
                   try clear c16b2
                   try clear p16
                   try clear q16
                   try clear hx16
                   try clear c17
                   try clear c17b0
                   try clear c18
                   try clear c18b0
                   try clear c20
                   try clear c20b0
                   try clear c20b1
                   try clear c21
                   try clear c21b0
                   try clear c22
                   try clear c22b0
                   try clear c24
                   try clear c24b0
                   try clear c24b1
                   try clear hx163_0
                   try clear hx163_1
                   try clear hx163_2
                   try clear hx163_3
                   try clear hx163_4
                   try clear hx166_0
                   try clear hx166_1
                   try clear hx166_2
                   try clear hx166_3
                   try clear hx166_4
                   try clear hx167_0
                   try clear hx167_1
                   try clear hx167_2
                   try clear hx169_0
                   try clear hx169_1
                   try clear hx169_2
                   try clear hx169_3
                   try clear hx169_4
                   try clear p1
                   try clear p16
                   try clear p163
                   try clear p166
                   try clear p167
                   try clear p169
                   try clear p2
                   try clear p6
                   try clear q1
                   try clear q16
                   try clear q163
                   try clear q166
                   try clear q167
                   try clear q169
                   obtain ⟨x10_6, rfl, HA, HK6, HB⟩ := hrel
                   cases gk with
                   | zero => exact absurd HA.out (by simp [gangsawref50_Check.l4])
                   | succ k6 =>
                    have H := HA.out
                    clear HA
                    simp only [gangsawref50_Check.l4] at H
                    by_cases c25 : x10_6 < (l1.length : Int)
                    ·rw [if_pos c25] at H
                     have c25b0 : decide (x10_6 < (l1.length : Int)) = true := decide_eq_true c25
                     clear c25
                     have H' := aK H
                     clear H
                     go_wp2
                     go_loopg [11] k6 (fun kq v11 w' => ∃ (x11_7 : Int), v11 = .int .i64 x11_7 ∧ Aside0 (gangsawref50_Check.l5 kq l0 l1 x10_6 x11_7 = some r) ∧ Aside0 (kq ≤ k6) ∧ Aside0 (Below w.heap.size w w'))
                     case atStart => exact ⟨(0), (by first | rfl | (simp; done) | (simp [*]; done)), H', ⟨Nat.le_refl _⟩, ⟨by repeat (first | (with_reducible first | exact HB.out | apply yA | apply yN | apply yD) | exact HB.out)⟩⟩
                     case round =>
                      clear H'
                      try clear c1
                      try clear p1
                      try clear q1
                      try clear hx1
                      try clear c2
                      try clear p2
                      try clear c4
                      try clear c4b0
                      try clear c4b1
                      try clear c5
                      try clear c5b0
                      try clear c6
                      try clear p6
                      try clear c7
                      try clear c7b0
                      try clear c8
                      try clear c10
                      try clear c12
                      try clear c14
                      try clear c14b0
                      try clear c15
                      try clear c15b0
                      try clear c16
                      try clear c16b0
                      try clear c16b1
                      try clear c16b2
                      try clear p16
                      try clear q16
                      try clear hx16
                      try clear c17
                      try clear c17b0
                      try clear c18
                      try clear c18b0
                      try clear c20
                      try clear c20b0
                      try clear c20b1
                      try clear c21
                      try clear c21b0
                      try clear c22
                      try clear c22b0
                      try clear c24
                      try clear c24b0
                      try clear c24b1
                      try clear c25
                      try clear c25b0
                      try clear hx163_0
                      try clear hx163_1
                      try clear hx163_2
                      try clear hx163_3
                      try clear hx163_4
                      try clear hx166_0
                      try clear hx166_1
                      try clear hx166_2
                      try clear hx166_3
                      try clear hx166_4
                      try clear hx167_0
                      try clear hx167_1
                      try clear hx167_2
                      try clear hx169_0
                      try clear hx169_1
                      try clear hx169_2
                      try clear hx169_3
                      try clear hx169_4
                      try clear p1
                      try clear p16
                      try clear p163
                      try clear p166
                      try clear p167
                      try clear p169
                      try clear p2
                      try clear p6
                      try clear q1
                      try clear q16
                      try clear q163
                      try clear q166
                      try clear q167
                      try clear q169
                      obtain ⟨x11_7, rfl, HA, HK7, HB⟩ := hrel
                      cases gk with
                      | zero => exact absurd HA.out (by simp [gangsawref50_Check.l5])
                      | succ k7 =>
                       have H := HA.out
                       clear HA
                       simp only [gangsawref50_Check.l5] at H
                       by_cases c26 : 0 ≤ x10_6
                       ·rw [if_pos c26] at H
                        have c26b0 : decide (0 ≤ x10_6) = true := decide_eq_true c26
                        clear c26
                        by_cases c27 : x10_6 < (l1.length : Int)
                        ·rw [if_pos c27] at H
                         have c27b0 : decide (x10_6 < (l1.length : Int)) = true := decide_eq_true c27
                         clear c27
                         by_cases c28 : x11_7 < (((rd_T38 l1 x10_6).f1).length : Int)
                         ·rw [if_pos c28] at H
                          have c28b0 : decide (x11_7 < (((rd_T38 l1 x10_6).f1).length : Int)) = true := decide_eq_true c28
                          clear c28
                          have H' := aK H
                          clear H
                          have p171 : 0 ≤ (x10_6 : Int) := of_decide_eq_true (by first | (with_reducible assumption) | assumption)
                          have q171 : x10_6 < (l1.length : Int) := of_decide_eq_true (by first | (with_reducible assumption) | assumption)
                          obtain ⟨ad171, A171_1, c171_1, e171, hx171_0, hx171_1, hx171_2, hx171_3, hx171_4, hl171_1, hi171_1⟩ := at_T38 HR1.out x10_6 p171 q171
                          cases e171
                          replace hx171_0 := (HB.out.cell (World.block_lt_of_cell? w _ hx171_0)).trans hx171_0
                          replace hx171_1 := (HB.out.cell (World.block_lt_of_cell? w _ hx171_1)).trans hx171_1
                          replace hx171_2 := (HB.out.cell (World.block_lt_of_cell? w _ hx171_2)).trans hx171_2
                          replace hx171_3 := (HB.out.cell (World.block_lt_of_cell? w _ hx171_3)).trans hx171_3
                          replace hx171_4 := (HB.out.cell (World.block_lt_of_cell? w _ hx171_4)).trans hx171_4
                          have HR171_1 := aK hi171_1
                          have HC171_1 := aK hl171_1
                          clear hi171_1 hl171_1
                          replace p171 := eq_true p171
                          replace q171 := eq_true q171
                          go_wp2
                          go_loopg [12, 13] k7 (fun kq v12 v13 w' => ∃ (x12_8 : Bool) (x13_8 : Int), v12 = .bool x12_8 ∧ v13 = .int .i64 x13_8 ∧ Aside0 (gangsawref50_Check.l6 kq l0 l1 x10_6 x11_7 x12_8 x13_8 = some r) ∧ Aside0 (kq ≤ k7) ∧ Aside0 (Below w.heap.size w w'))
                          case atStart => exact ⟨(false), (0), (by first | rfl | (simp; done) | (simp [*]; done)), (by first | rfl | (simp; done) | (simp [*]; done)), H', ⟨Nat.le_refl _⟩, ⟨by repeat (first | (with_reducible first | exact HB.out | apply yA | apply yN | apply yD) | exact HB.out)⟩⟩
                          case round =>
                           clear H'
                           try clear c1
                           try clear p1
                           try clear q1
                           try clear hx1
                           try clear c2
                           try clear p2
                           try clear c4
                           try clear c4b0
                           try clear c4b1
                           try clear c5
                           try clear c5b0
                           try clear c6
                           try clear p6
                           try clear c7
                           try clear c7b0
                           try clear c8
                           try clear c10
                           try clear c12
                           try clear c14
                           try clear c14b0
                           try clear c15
                           try clear c15b0
                           try clear c16
                           try clear c16b0
                           try clear c16b1
                           try clear c16b2
                           try clear p16
                           try clear q16
                           try clear hx16
                           try clear c17
                           try clear c17b0
                           try clear p17
                           try clear q17
                           try clear hx17
                           try clear c18
                           try clear c18b0
                           try clear c20
                           try clear c20b0
                           try clear c20b1
                           try clear c21
                           try clear c21b0
                           try clear c22
                           try clear c22b0
                           try clear c24
                           try clear c24b0
                           try clear c24b1
                           try clear c25
                           try clear c25b0
                           try clear c26
                           try clear c26b0
                           try clear c27
                           try clear c27b0
                           try clear c28
                           try clear c28b0
                           try clear hx163_0
                           try clear hx163_1
                           try clear hx163_2
                           try clear hx163_3
                           try clear hx163_4
                           try clear hx166_0
                           try clear hx166_1
                           try clear hx166_2
                           try clear hx166_3
                           try clear hx166_4
                           try clear hx167_0
                           try clear hx167_1
                           try clear hx167_2
                           try clear hx169_0
                           try clear hx169_1
                           try clear hx169_2
                           try clear hx169_3
                           try clear hx169_4
                           try clear hx171_0
                           try clear hx171_1
                           try clear hx171_2
                           try clear hx171_3
                           try clear hx171_4
                           try clear p1
                           try clear p16
                           try clear p163
                           try clear p166
                           try clear p167
                           try clear p169
                           try clear p171
                           try clear p2
                           try clear p6
                           try clear q1
                           try clear q16
                           try clear q163
                           try clear q166
                           try clear q167
                           try clear q169
                           try clear q171
                           obtain ⟨x12_8, x13_8, rfl, rfl, HA, HK8, HB⟩ := hrel
                           cases gk with
                           | zero => exact absurd HA.out (by simp [gangsawref50_Check.l6])
                           | succ k8 =>
                            have H := HA.out
                            clear HA
                            simp only [gangsawref50_Check.l6] at H
                            by_cases c29 : x13_8 < (l0.length : Int)
                            ·rw [if_pos c29] at H
                             have c29b0 : decide (x13_8 < (l0.length : Int)) = true := decide_eq_true c29
                             clear c29
                             by_cases c30 : x12_8 = true
                             ·subst c30
                              have H1 : (gangsawref50_Check.l6 k8 l0 l1 x10_6 x11_7 true (wrap64 (x13_8 + 1))) = some r := by rw [if_pos rfl] at H; exact H
                              clear H
                              have H := H1
                              clear H1
                              have H' := aK H
                              clear H
                              go_wp2
                              repeat (go_quiet (fail); try go_wp2)
                              go_roundg k8
                              case measure => have := HJ2.out; have := HK2.out; have := HK3.out; have := HK4.out; have := HK5.out; have := HK6.out; have := HK7.out; have := HK8.out; omega
                              case rel => exact ⟨(true), (wrap64 (x13_8 + 1)), (by first | rfl | (simp; done) | (simp [*]; done)), (by first | rfl | (simp; done) | (simp [*]; done)), H', ⟨by have := HJ2.out; have := HK2.out; have := HK3.out; have := HK4.out; have := HK5.out; have := HK6.out; have := HK7.out; have := HK8.out; omega⟩, ⟨by repeat (first | (with_reducible first | exact HB.out | apply yA | apply yN | apply yD) | exact HB.out)⟩⟩
                             ·replace c30 := Bool.eq_false_iff.mpr c30
                              subst c30
                              have H1 : (if 0 ≤ x13_8 then (if 0 ≤ x10_6 then (if x10_6 < (l1.length : Int) then (if 0 ≤ x11_7 then (if x11_7 < (((rd_T38 l1 x10_6).f1).length : Int) then (gangsawref50_Check.l6 k8 l0 l1 x10_6 x11_7 (((rd_T42 l0 x13_8).f1).toList == ((rd_T40 ((rd_T38 l1 x10_6).f1) x11_7).f0).toList) (wrap64 (x13_8 + 1))) else (none)) else (none)) else (none)) else (none)) else (none)) = some r := by rw [if_neg (show ¬ (false = true) by decide)] at H; exact H
                              clear H
                              have H := H1
                              clear H1
                              by_cases c31 : 0 ≤ x13_8
                              ·rw [if_pos c31] at H
                               have c31b0 : decide (0 ≤ x13_8) = true := decide_eq_true c31
                               clear c31
                               by_cases c32 : 0 ≤ x10_6
                               ·rw [if_pos c32] at H
                                have c32b0 : decide (0 ≤ x10_6) = true := decide_eq_true c32
                                clear c32
                                by_cases c33 : x10_6 < (l1.length : Int)
                                ·rw [if_pos c33] at H
                                 have c33b0 : decide (x10_6 < (l1.length : Int)) = true := decide_eq_true c33
                                 clear c33
                                 by_cases c34 : 0 ≤ x11_7
                                 ·rw [if_pos c34] at H
                                  have c34b0 : decide (0 ≤ x11_7) = true := decide_eq_true c34
                                  clear c34
                                  by_cases c35 : x11_7 < (((rd_T38 l1 x10_6).f1).length : Int)
                                  ·rw [if_pos c35] at H
                                   have c35b0 : decide (x11_7 < (((rd_T38 l1 x10_6).f1).length : Int)) = true := decide_eq_true c35
                                   clear c35
                                   have H' := aK H
                                   clear H
                                   have p172 : 0 ≤ (x13_8 : Int) := of_decide_eq_true (by first | (with_reducible assumption) | assumption)
                                   have q172 : x13_8 < (l0.length : Int) := of_decide_eq_true (by first | (with_reducible assumption) | assumption)
                                   obtain ⟨ad172, e172, hx172_0, hx172_1, hx172_2⟩ := at_T42 HR0.out x13_8 p172 q172
                                   cases e172
                                   replace hx172_0 := (HB.out.cell (World.block_lt_of_cell? w _ hx172_0)).trans hx172_0
                                   replace hx172_1 := (HB.out.cell (World.block_lt_of_cell? w _ hx172_1)).trans hx172_1
                                   replace hx172_2 := (HB.out.cell (World.block_lt_of_cell? w _ hx172_2)).trans hx172_2
                                   replace p172 := eq_true p172
                                   replace q172 := eq_true q172
                                   have p173 : 0 ≤ (x10_6 : Int) := of_decide_eq_true (by first | (with_reducible assumption) | assumption)
                                   have q173 : x10_6 < (l1.length : Int) := of_decide_eq_true (by first | (with_reducible assumption) | assumption)
                                   obtain ⟨ad173, A173_1, c173_1, e173, hx173_0, hx173_1, hx173_2, hx173_3, hx173_4, hl173_1, hi173_1⟩ := at_T38 HR1.out x10_6 p173 q173
                                   obtain rfl : ad171 = ad173 := (by injection e173)
                                   replace hx173_0 := (HB.out.cell (World.block_lt_of_cell? w _ hx173_0)).trans hx173_0
                                   replace hx173_1 := (HB.out.cell (World.block_lt_of_cell? w _ hx173_1)).trans hx173_1
                                   replace hx173_2 := (HB.out.cell (World.block_lt_of_cell? w _ hx173_2)).trans hx173_2
                                   replace hx173_3 := (HB.out.cell (World.block_lt_of_cell? w _ hx173_3)).trans hx173_3
                                   replace hx173_4 := (HB.out.cell (World.block_lt_of_cell? w _ hx173_4)).trans hx173_4
                                   have HR173_1 := aK hi173_1
                                   have HC173_1 := aK hl173_1
                                   clear hi173_1 hl173_1
                                   replace p173 := eq_true p173
                                   replace q173 := eq_true q173
                                   have p174 : 0 ≤ (x11_7 : Int) := of_decide_eq_true (by first | (with_reducible assumption) | assumption)
                                   have q174 : x11_7 < (((rd_T38 l1 x10_6).f1).length : Int) := of_decide_eq_true (by first | (with_reducible assumption) | assumption)
                                   obtain ⟨ad174, e174, hx174_0, hx174_1, hx174_2⟩ := at_T40 HR173_1.out x11_7 p174 q174
                                   cases e174
                                   replace hx174_0 := (HB.out.cell (World.block_lt_of_cell? w _ hx174_0)).trans hx174_0
                                   replace hx174_1 := (HB.out.cell (World.block_lt_of_cell? w _ hx174_1)).trans hx174_1
                                   replace hx174_2 := (HB.out.cell (World.block_lt_of_cell? w _ hx174_2)).trans hx174_2
                                   replace p174 := eq_true p174
                                   replace q174 := eq_true q174
                                   go_wp2
                                   repeat (go_quiet (fail); try go_wp2)
                                   go_roundg k8
                                   case measure => have := HJ2.out; have := HK2.out; have := HK3.out; have := HK4.out; have := HK5.out; have := HK6.out; have := HK7.out; have := HK8.out; omega
                                   case rel => exact ⟨((((rd_T42 l0 x13_8).f1).toList == ((rd_T40 ((rd_T38 l1 x10_6).f1) x11_7).f0).toList)), (wrap64 (x13_8 + 1)), (by first | rfl | (simp; done) | (simp [*]; done)), (by first | rfl | (simp; done) | (simp [*]; done)), H', ⟨by have := HJ2.out; have := HK2.out; have := HK3.out; have := HK4.out; have := HK5.out; have := HK6.out; have := HK7.out; have := HK8.out; omega⟩, ⟨by repeat (first | (with_reducible first | exact HB.out | apply yA | apply yN | apply yD) | exact HB.out)⟩⟩
                                  ·rw [if_neg c35] at H
                                   exact absurd H (by simp)
                                 ·rw [if_neg c34] at H
                                  exact absurd H (by simp)
                                ·rw [if_neg c33] at H
                                 exact absurd H (by simp)
                               ·rw [if_neg c32] at H
                                exact absurd H (by simp)
                              ·rw [if_neg c31] at H
                               exact absurd H (by simp)
                            ·rw [if_neg c29] at H
                             have c29b0 : decide (x13_8 < (l0.length : Int)) = false := decide_eq_false c29
                             clear c29
                             by_cases c36 : x12_8 = true
                             ·subst c36
                              have H1 : (gangsawref50_Check.l5 k8 l0 l1 x10_6 (wrap64 (x11_7 + 1))) = some r := by rw [if_pos rfl] at H; exact H
                              clear H
                              have H := H1
                              clear H1
                              have H' := aK H
                              clear H
                              go_wp2
                              go_roundg k8
                              case measure => have := HJ2.out; have := HK2.out; have := HK3.out; have := HK4.out; have := HK5.out; have := HK6.out; have := HK7.out; have := HK8.out; omega
                              case rel => exact ⟨(wrap64 (x11_7 + 1)), (by first | rfl | (simp; done) | (simp [*]; done)), H', ⟨by have := HJ2.out; have := HK2.out; have := HK3.out; have := HK4.out; have := HK5.out; have := HK6.out; have := HK7.out; have := HK8.out; omega⟩, ⟨by repeat (first | (with_reducible first | exact HB.out | apply yA | apply yN | apply yD) | exact HB.out)⟩⟩
                             ·replace c36 := Bool.eq_false_iff.mpr c36
                              subst c36
                              have H1 : (some 3) = some r := by rw [if_neg (show ¬ (false = true) by decide)] at H; exact H
                              clear H
                              have H := H1
                              clear H1
                              obtain rfl := Option.some.inj H
                              simp only [Option.some.injEq, Prod.mk.injEq] at H
                              obtain ⟨rfl⟩ := H
                              go_wp2
                              go_ret
                              exact ⟨by first | rfl | (simp [errW_none, errW_some] <;> rfl) | (simp [*, errW_none, errW_some] <;> rfl), by repeat (first | (with_reducible first | exact HB.out | apply yA | apply yN | apply yD) | exact HB.out)⟩
                         ·rw [if_neg c28] at H
                          have c28b0 : decide (x11_7 < (((rd_T38 l1 x10_6).f1).length : Int)) = false := decide_eq_false c28
                          clear c28
                          have H' := aK H
                          clear H
                          have p171 : 0 ≤ (x10_6 : Int) := of_decide_eq_true (by first | (with_reducible assumption) | assumption)
                          have q171 : x10_6 < (l1.length : Int) := of_decide_eq_true (by first | (with_reducible assumption) | assumption)
                          obtain ⟨ad171, A171_1, c171_1, e171, hx171_0, hx171_1, hx171_2, hx171_3, hx171_4, hl171_1, hi171_1⟩ := at_T38 HR1.out x10_6 p171 q171
                          cases e171
                          replace hx171_0 := (HB.out.cell (World.block_lt_of_cell? w _ hx171_0)).trans hx171_0
                          replace hx171_1 := (HB.out.cell (World.block_lt_of_cell? w _ hx171_1)).trans hx171_1
                          replace hx171_2 := (HB.out.cell (World.block_lt_of_cell? w _ hx171_2)).trans hx171_2
                          replace hx171_3 := (HB.out.cell (World.block_lt_of_cell? w _ hx171_3)).trans hx171_3
                          replace hx171_4 := (HB.out.cell (World.block_lt_of_cell? w _ hx171_4)).trans hx171_4
                          have HR171_1 := aK hi171_1
                          have HC171_1 := aK hl171_1
                          clear hi171_1 hl171_1
                          replace p171 := eq_true p171
                          replace q171 := eq_true q171
                          go_wp2
                          go_roundg k7
                          case measure => have := HJ2.out; have := HK2.out; have := HK3.out; have := HK4.out; have := HK5.out; have := HK6.out; have := HK7.out; omega
                          case rel => exact ⟨(wrap64 (x10_6 + 1)), (by first | rfl | (simp; done) | (simp [*]; done)), H', ⟨by have := HJ2.out; have := HK2.out; have := HK3.out; have := HK4.out; have := HK5.out; have := HK6.out; have := HK7.out; omega⟩, ⟨by repeat (first | (with_reducible first | exact HB.out | apply yA | apply yN | apply yD) | exact HB.out)⟩⟩
                        ·rw [if_neg c27] at H
                         exact absurd H (by simp)
                       ·rw [if_neg c26] at H
                        exact absurd H (by simp)
                    ·rw [if_neg c25] at H
                     have c25b0 : decide (x10_6 < (l1.length : Int)) = false := decide_eq_false c25
                     clear c25
                     obtain rfl := Option.some.inj H
                     simp only [Option.some.injEq, Prod.mk.injEq] at H
                     obtain ⟨rfl⟩ := H
                     go_wp2
                     go_ret
                     exact ⟨by first | rfl | (simp [errW_none, errW_some] <;> rfl) | (simp [*, errW_none, errW_some] <;> rfl), by repeat (first | (with_reducible first | exact HB.out | apply yA | apply yN | apply yD) | exact HB.out)⟩
        ·replace c12 := Bool.eq_false_iff.mpr c12
         subst c12
         have H1 : (some 6) = some r := by rw [if_neg (show ¬ (false = true) by decide)] at H; exact H
         clear H
         have H := H1
         clear H1
         obtain rfl := Option.some.inj H
         simp only [Option.some.injEq, Prod.mk.injEq] at H
         obtain ⟨rfl⟩ := H
         go_wp2_with (first | (go_at_call 82; (with_reducible refine (gangsawref50_named.calls k2 _ _ l0 _ _ l1 true _ ?side1 ?side2 ?side3 ?side4 A9.out).mono ?_); (case side1 => repeat (first | exact (Kd.C_below HR0.out HB.out) | (with_reducible refine Kd.C_alloc ?_ _) | (with_reducible refine Kd.C_drewN ?_ _) | (with_reducible refine Kd.C_drew ?_))); (case side2 => exact HC0.out); (case side3 => repeat (first | exact (Kd.C_below HR1.out HB.out) | (with_reducible refine Kd.C_alloc ?_ _) | (with_reducible refine Kd.C_drewN ?_ _) | (with_reducible refine Kd.C_drew ?_))); (case side4 => exact HC1.out); rintro e w' ⟨rfl, ⟨nd, rfl⟩⟩; (try first | exact ⟨rfl, _, World.drewN_drewN _ _ _⟩ | exact ⟨rfl, _, Eq.trans (World.drewN_drewN _ _ _) (congrArg (World.drewN _) (Nat.add_assoc _ _ _))⟩)) | (go_at_call 83; (with_reducible refine (gangsawref50_ranged.calls k2 _ _ l0 _ _ l1 false _ ?side1 ?side2 ?side3 ?side4 A11.out).mono ?_); (case side1 => repeat (first | exact (Kd.C_below HR0.out (by repeat (first | (with_reducible first | exact HB.out | apply yA | apply yN | apply yD) | exact HB.out))) | (with_reducible refine Kd.C_alloc ?_ _) | (with_reducible refine Kd.C_drewN ?_ _) | (with_reducible refine Kd.C_drew ?_))); (case side2 => exact HC0.out); (case side3 => repeat (first | exact (Kd.C_below HR1.out (by repeat (first | (with_reducible first | exact HB.out | apply yA | apply yN | apply yD) | exact HB.out))) | (with_reducible refine Kd.C_alloc ?_ _) | (with_reducible refine Kd.C_drewN ?_ _) | (with_reducible refine Kd.C_drew ?_))); (case side4 => exact HC1.out); rintro e w37 ⟨rfl, hb⟩; have n0_ := aK (yT (by repeat (first | (with_reducible first | exact HB.out | apply yA | apply yN | apply yD) | exact HB.out)) hb); clear HB; have HB := n0_; clear n0_; (try clear hb); (try clear hb2); (try clear hk); (try clear hi)))
         go_ret
         exact ⟨by first | rfl | (simp [errW_none, errW_some] <;> rfl) | (simp [*, errW_none, errW_some] <;> rfl), by repeat (first | (with_reducible first | exact HB.out | apply yA | apply yN | apply yD) | exact HB.out)⟩
       ·replace c10 := Bool.eq_false_iff.mpr c10
        subst c10
        have H1 : (some 4) = some r := by rw [if_neg (show ¬ (false = true) by decide)] at H; exact H
        clear H
        have H := H1
        clear H1
        obtain rfl := Option.some.inj H
        simp only [Option.some.injEq, Prod.mk.injEq] at H
        obtain ⟨rfl⟩ := H
        go_wp2_with (first | (go_at_call 82; (with_reducible refine (gangsawref50_named.calls k2 _ _ l0 _ _ l1 false _ ?side1 ?side2 ?side3 ?side4 A9.out).mono ?_); (case side1 => repeat (first | exact (Kd.C_below HR0.out HB.out) | (with_reducible refine Kd.C_alloc ?_ _) | (with_reducible refine Kd.C_drewN ?_ _) | (with_reducible refine Kd.C_drew ?_))); (case side2 => exact HC0.out); (case side3 => repeat (first | exact (Kd.C_below HR1.out HB.out) | (with_reducible refine Kd.C_alloc ?_ _) | (with_reducible refine Kd.C_drewN ?_ _) | (with_reducible refine Kd.C_drew ?_))); (case side4 => exact HC1.out); rintro e w' ⟨rfl, ⟨nd, rfl⟩⟩; (try first | exact ⟨rfl, _, World.drewN_drewN _ _ _⟩ | exact ⟨rfl, _, Eq.trans (World.drewN_drewN _ _ _) (congrArg (World.drewN _) (Nat.add_assoc _ _ _))⟩)))
        go_ret
        exact ⟨by first | rfl | (simp [errW_none, errW_some] <;> rfl) | (simp [*, errW_none, errW_some] <;> rfl), by repeat (first | (with_reducible first | exact HB.out | apply yA | apply yN | apply yD) | exact HB.out)⟩

end Go.Proofs.YtkdbcaegeeeiaaaGreat.P
