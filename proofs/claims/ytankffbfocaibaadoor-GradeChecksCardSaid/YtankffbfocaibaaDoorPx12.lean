/- What functions of the program return: each contract says so of one function, for every input at which its pure function yields. -/
import Derived.Test.YtankffbfocaibaaDoorPx0
import Derived.Test.YtankffbfocaibaaDoorPx1
import Derived.Test.YtankffbfocaibaaDoorPx5
import Derived.Test.YtankffbfocaibaaDoorPx8
import Derived.Test.YtankffbfocaibaaDoorPx10
import Derived.Test.YtankffbfocaibaaDoorPx11
import Derived.Test.YtankffbfocaibaaDoorAwk
namespace Go.Proofs.YtankffbfocaibaaDoor.P
open Go.RowKit Go.Proofs.YtankffbfocaibaaDoorW.PrintWords Go.Proofs.YtankffbfocaibaaDoorW.PrintLast Go.Proofs.YtankffbfocaibaaDoorW.PrintMore
attribute [local go_sem] max2_int min2_int max_two min_two max_three min_three max_four min_four   -- for this text's walks alone
set_option linter.unusedVariables false
set_option linter.unusedSimpArgs false

open Go.Proofs.YtankffbfocaibaaDoor.Awk
mutual
def gangsawlaw34_GradeChecks.j0 : Nat → List (S32) → List (S46) → Bool → Option (Bool)
 | 0, _, _, _ => none
 | k + 1, x0, x1, x33 => if x33 = true then (some true) else ((grade_Of.f k x0 x1).bind fun bt196 => ((gangsawref34_Of.f k x0 x1).bind fun bt198 => ((grade_Check.f k x0).bind fun t200 => ((gangsawref34_Check.f k x0).bind fun t201 => (if t200 = t201 then (if bt196.1.toList = bt198.1.toList then (gangsawlaw34_GradeChecks.j1 k x0 x1 (bt196.2 != bt198.2)) else (gangsawlaw34_GradeChecks.j1 k x0 x1 true)) else (gangsawlaw34_GradeChecks.j1 k x0 x1 true))))))
def gangsawlaw34_GradeChecks.j1 : Nat → List (S32) → List (S46) → Bool → Option (Bool)
 | 0, _, _, _ => none
 | k + 1, x0, x1, x60 => if x60 = true then (some false) else (gangsawlaw34_GradeChecks.l0 k x0 x1 0)
def gangsawlaw34_GradeChecks.l0 : Nat → List (S32) → List (S46) → Int → Option (Bool)
 | 0, _, _, _ => none
 | k + 1, x0, x1, x9 => if x9 < (x0.length : Int) then (if 0 ≤ x9 then ((grade_Meets.f k ((rd_T32 x0 x9).f0) ((rd_T32 x0 x9).f1) ((rd_T32 x0 x9).f2) ((rd_T32 x0 x9).f3) x1).bind fun bt203 => ((gangsawref34_Meets.f k ((rd_T32 x0 x9).f0) ((rd_T32 x0 x9).f1) ((rd_T32 x0 x9).f2) ((rd_T32 x0 x9).f3) x1).bind fun bt206 => (if (bt203.1 != bt206.1) = true then (some false) else (if bt203.2 = bt206.2 then (gangsawlaw34_GradeChecks.l0 k x0 x1 (wrap64 (x9 + 1))) else (some false))))) else (none)) else (some true)
end
def gangsawlaw34_GradeChecks.f (k : Nat) (l0 : List (S32)) (l1 : List (S46)) : Option (Bool) := (gangsawlaw34_awake.f).bind fun t195 => (if t195 = true then (if (l0.length : Int) > 20 then (gangsawlaw34_GradeChecks.j0 k l0 l1 true) else (if (l1.length : Int) > 40 then (if (l1.length : Int) ≤ 256 then (gangsawlaw34_GradeChecks.j0 k l0 l1 true) else (gangsawlaw34_GradeChecks.j0 k l0 l1 (decide ((l1.length : Int) > 300)))) else (gangsawlaw34_GradeChecks.j0 k l0 l1 (decide ((l1.length : Int) > 300))))) else (some false))
theorem gangsawlaw34_GradeChecks.mono_l : ∀ k, (∀ y0 y1 y2, LeO (gangsawlaw34_GradeChecks.j0 k y0 y1 y2) (gangsawlaw34_GradeChecks.j0 (k + 1) y0 y1 y2)) ∧ (∀ y0 y1 y2, LeO (gangsawlaw34_GradeChecks.j1 k y0 y1 y2) (gangsawlaw34_GradeChecks.j1 (k + 1) y0 y1 y2)) ∧ (∀ y0 y1 y2, LeO (gangsawlaw34_GradeChecks.l0 k y0 y1 y2) (gangsawlaw34_GradeChecks.l0 (k + 1) y0 y1 y2))
 | 0 => ⟨fun _ _ _ r h => by simp [gangsawlaw34_GradeChecks.j0] at h, fun _ _ _ r h => by simp [gangsawlaw34_GradeChecks.j1] at h, fun _ _ _ r h => by simp [gangsawlaw34_GradeChecks.l0] at h⟩
 | k + 1 => by
  obtain ⟨ih0, ih1, ih2⟩ := gangsawlaw34_GradeChecks.mono_l k
  refine ⟨?_, ?_, ?_⟩
  ·intro y0 y1 y2
   unfold gangsawlaw34_GradeChecks.j0
   repeat' first
   | (with_reducible exact ih0 _ _ _)
   | (with_reducible exact ih1 _ _ _)
   | (with_reducible exact ih2 _ _ _)
   | (with_reducible exact gangsawref34_Check.mono _ _)
   | (with_reducible exact gangsawref34_Meets.mono _ _ _ _ _ _)
   | (with_reducible exact gangsawref34_Of.mono _ _ _)
   | (with_reducible exact grade_Check.mono _ _)
   | (with_reducible exact grade_Meets.mono _ _ _ _ _ _)
   | (with_reducible exact grade_Of.mono _ _ _)
   | (with_reducible refine contains32.mono2 (fun x_ => ?_))
   | (with_reducible refine contains46.mono2 (fun x_ => ?_))
   | (with_reducible refine index32.mono2 (fun x_ => ?_))
   | (with_reducible refine index46.mono2 (fun x_ => ?_))
   | (with_reducible exact LeO.refl _)
   | (with_reducible exact LeO.none _)
   | (with_reducible refine LeO.ite ?_ ?_)
   | (with_reducible refine LeO.bind ?_ (fun _ => ?_))
   | exact ih0 _ _ _
   | exact ih1 _ _ _
   | exact ih2 _ _ _
   | exact gangsawref34_Check.mono _ _
   | exact gangsawref34_Meets.mono _ _ _ _ _ _
   | exact gangsawref34_Of.mono _ _ _
   | exact grade_Check.mono _ _
   | exact grade_Meets.mono _ _ _ _ _ _
   | exact grade_Of.mono _ _ _
   | exact LeO.none _
   | refine LeO.ite ?_ ?_
   | refine LeO.bind ?_ (fun _ => ?_)
  ·intro y0 y1 y2
   unfold gangsawlaw34_GradeChecks.j1
   repeat' first
   | (with_reducible exact ih0 _ _ _)
   | (with_reducible exact ih1 _ _ _)
   | (with_reducible exact ih2 _ _ _)
   | (with_reducible exact gangsawref34_Check.mono _ _)
   | (with_reducible exact gangsawref34_Meets.mono _ _ _ _ _ _)
   | (with_reducible exact gangsawref34_Of.mono _ _ _)
   | (with_reducible exact grade_Check.mono _ _)
   | (with_reducible exact grade_Meets.mono _ _ _ _ _ _)
   | (with_reducible exact grade_Of.mono _ _ _)
   | (with_reducible refine contains32.mono2 (fun x_ => ?_))
   | (with_reducible refine contains46.mono2 (fun x_ => ?_))
   | (with_reducible refine index32.mono2 (fun x_ => ?_))
   | (with_reducible refine index46.mono2 (fun x_ => ?_))
   | (with_reducible exact LeO.refl _)
   | (with_reducible exact LeO.none _)
   | (with_reducible refine LeO.ite ?_ ?_)
   | (with_reducible refine LeO.bind ?_ (fun _ => ?_))
   | exact ih0 _ _ _
   | exact ih1 _ _ _
   | exact ih2 _ _ _
   | exact gangsawref34_Check.mono _ _
   | exact gangsawref34_Meets.mono _ _ _ _ _ _
   | exact gangsawref34_Of.mono _ _ _
   | exact grade_Check.mono _ _
   | exact grade_Meets.mono _ _ _ _ _ _
   | exact grade_Of.mono _ _ _
   | exact LeO.none _
   | refine LeO.ite ?_ ?_
   | refine LeO.bind ?_ (fun _ => ?_)
  ·intro y0 y1 y2
   unfold gangsawlaw34_GradeChecks.l0
   repeat' first
   | (with_reducible exact ih0 _ _ _)
   | (with_reducible exact ih1 _ _ _)
   | (with_reducible exact ih2 _ _ _)
   | (with_reducible exact gangsawref34_Check.mono _ _)
   | (with_reducible exact gangsawref34_Meets.mono _ _ _ _ _ _)
   | (with_reducible exact gangsawref34_Of.mono _ _ _)
   | (with_reducible exact grade_Check.mono _ _)
   | (with_reducible exact grade_Meets.mono _ _ _ _ _ _)
   | (with_reducible exact grade_Of.mono _ _ _)
   | (with_reducible refine contains32.mono2 (fun x_ => ?_))
   | (with_reducible refine contains46.mono2 (fun x_ => ?_))
   | (with_reducible refine index32.mono2 (fun x_ => ?_))
   | (with_reducible refine index46.mono2 (fun x_ => ?_))
   | (with_reducible exact LeO.refl _)
   | (with_reducible exact LeO.none _)
   | (with_reducible refine LeO.ite ?_ ?_)
   | (with_reducible refine LeO.bind ?_ (fun _ => ?_))
   | exact ih0 _ _ _
   | exact ih1 _ _ _
   | exact ih2 _ _ _
   | exact gangsawref34_Check.mono _ _
   | exact gangsawref34_Meets.mono _ _ _ _ _ _
   | exact gangsawref34_Of.mono _ _ _
   | exact grade_Check.mono _ _
   | exact grade_Meets.mono _ _ _ _ _ _
   | exact grade_Of.mono _ _ _
   | exact LeO.none _
   | refine LeO.ite ?_ ?_
   | refine LeO.bind ?_ (fun _ => ?_)
theorem gangsawlaw34_GradeChecks.mono : ∀ a0 a1 k, LeO (gangsawlaw34_GradeChecks.f k a0 a1) (gangsawlaw34_GradeChecks.f (k + 1) a0 a1) := by
 intro a0 a1 k
 obtain ⟨ih0, ih1, ih2⟩ := gangsawlaw34_GradeChecks.mono_l k
 unfold gangsawlaw34_GradeChecks.f
 repeat' first
   | (with_reducible exact ih0 _ _ _)
   | (with_reducible exact ih1 _ _ _)
   | (with_reducible exact ih2 _ _ _)
   | (with_reducible exact gangsawref34_Check.mono _ _)
   | (with_reducible exact gangsawref34_Meets.mono _ _ _ _ _ _)
   | (with_reducible exact gangsawref34_Of.mono _ _ _)
   | (with_reducible exact grade_Check.mono _ _)
   | (with_reducible exact grade_Meets.mono _ _ _ _ _ _)
   | (with_reducible exact grade_Of.mono _ _ _)
   | (with_reducible refine contains32.mono2 (fun x_ => ?_))
   | (with_reducible refine contains46.mono2 (fun x_ => ?_))
   | (with_reducible refine index32.mono2 (fun x_ => ?_))
   | (with_reducible refine index46.mono2 (fun x_ => ?_))
   | (with_reducible exact LeO.refl _)
   | (with_reducible exact LeO.none _)
   | (with_reducible refine LeO.ite ?_ ?_)
   | (with_reducible refine LeO.bind ?_ (fun _ => ?_))
   | exact ih0 _ _ _
   | exact ih1 _ _ _
   | exact ih2 _ _ _
   | exact gangsawref34_Check.mono _ _
   | exact gangsawref34_Meets.mono _ _ _ _ _ _
   | exact gangsawref34_Of.mono _ _ _
   | exact grade_Check.mono _ _
   | exact grade_Meets.mono _ _ _ _ _ _
   | exact grade_Of.mono _ _ _
   | exact LeO.none _
   | refine LeO.ite ?_ ?_
   | refine LeO.bind ?_ (fun _ => ?_)
set_option maxHeartbeats 8000000 in
set_option maxRecDepth 100000 in
theorem gangsawlaw34_GradeChecks.calls (k : Nat) (A0 : Option Addr) (c0 : Nat) (l0 : List (S32)) (A1 : Option Addr) (c1 : Nat) (l1 : List (S46)) (r : Bool) (w : World) (hr0 : Kd.C k32 w A0 l0.length l0) (hc0 : l0.length ≤ c0) (hr1 : Kd.C k46 w A1 l1.length l1) (hc1 : l1.length ≤ c1) (h : gangsawlaw34_GradeChecks.f k l0 l1 = some r) (hr : r = true) (hld : FormAt w) :
  Calls Tryd.prog 3 #[.slice A0 l0.length c0, .slice A1 l1.length c1] w fun e w' => e = .returned (.bool r) ∧ Below w.heap.size w w' := by
 have HLD := Aside0.mk hld
 clear hld
 have hu32 := Tryd.underlying32
 have HR0 := Aside0.mk hr0
 have HC0 := Aside0.mk hc0
 clear hr0 hc0
 have HR1 := Aside0.mk hr1
 have HC1 := Aside0.mk hc1
 clear hr1 hc1
 have HB := Aside0.mk (Below.refl w.heap.size w)
 have H : ((gangsawlaw34_awake.f).bind fun t195 => (if t195 = true then (if (l0.length : Int) > 20 then (gangsawlaw34_GradeChecks.j0 k l0 l1 true) else (if (l1.length : Int) > 40 then (if (l1.length : Int) ≤ 256 then (gangsawlaw34_GradeChecks.j0 k l0 l1 true) else (gangsawlaw34_GradeChecks.j0 k l0 l1 (decide ((l1.length : Int) > 300)))) else (gangsawlaw34_GradeChecks.j0 k l0 l1 (decide ((l1.length : Int) > 300))))) else (some false))) = some r := h
 clear h
 replace H := Option.bind_eq_some_iff.mp H
 obtain ⟨t195, A30, H⟩ := H
 replace H : (if t195 = true then (if (l0.length : Int) > 20 then (gangsawlaw34_GradeChecks.j0 k l0 l1 true) else (if (l1.length : Int) > 40 then (if (l1.length : Int) ≤ 256 then (gangsawlaw34_GradeChecks.j0 k l0 l1 true) else (gangsawlaw34_GradeChecks.j0 k l0 l1 (decide ((l1.length : Int) > 300)))) else (gangsawlaw34_GradeChecks.j0 k l0 l1 (decide ((l1.length : Int) > 300))))) else (some false)) = some r := H
 have A3 := Aside0.mk A30
 clear A30
 by_cases c4 : t195 = true
 ·subst c4
  have H1 : (if (l0.length : Int) > 20 then (gangsawlaw34_GradeChecks.j0 k l0 l1 true) else (if (l1.length : Int) > 40 then (if (l1.length : Int) ≤ 256 then (gangsawlaw34_GradeChecks.j0 k l0 l1 true) else (gangsawlaw34_GradeChecks.j0 k l0 l1 (decide ((l1.length : Int) > 300)))) else (gangsawlaw34_GradeChecks.j0 k l0 l1 (decide ((l1.length : Int) > 300))))) = some r := by rw [if_pos rfl] at H; exact H
  clear H
  have H := H1
  clear H1
  have HC5 := Aside0.mk H
  clear H
  go_enter Tryd.func3, Tryd.ntmps3
  go_upto_region 3 with (first | ((with_reducible refine gate_callee (f := 9) rfl ?_); refine goesL_ (some 14) rfl rfl Tryd.func9 (by kernel_rfl) rfl #[] rfl (by (try simp only [List.map_toArray, List.map_cons, List.map_nil]); first | done | rfl | (simp only [List.length_drop, List.length_take]; rfl)) ?_; (with_reducible refine (gangsawlaw34_awake.callsL HLD.out true _ (by repeat (first | (with_reducible first | exact HB.out | apply below_alloc | apply pw_below_drewN | apply below_drew1) | exact HB.out)) A3.out).mono ?_); rintro e w6 ⟨rfl, hb⟩; refine ⟨_, rfl, ?_⟩; have n0_ := Aside0.mk (below_step (by repeat (first | (with_reducible first | exact HB.out | apply below_alloc | apply pw_below_drewN | apply below_drew1) | exact HB.out)) hb); clear HB; have HB := n0_; clear n0_; (try clear hb); (try clear hb2); (try clear hk); (try clear hi)))
  (try simp only [Act.put, List.setIfInBounds_toArray, List.set_cons_zero, List.set_cons_succ])
  go_cut [33] (fun v33 wc => ∃ (kq : Nat) (x33_4 : Bool), v33 = .bool x33_4 ∧ Aside0 (gangsawlaw34_GradeChecks.j0 kq l0 l1 x33_4 = some r) ∧ Aside0 (kq ≤ k) ∧ Aside0 (Below w.heap.size w wc))
  case first =>
   have H := HC5.out
   clear HC5
   by_cases c7 : (l0.length : Int) > 20
   ·rw [if_pos c7] at H
    have c7b0 : decide (20 < (l0.length : Int)) = true := decide_eq_true c7
    have c7b1 : decide (20 < l0.length) = true := decide_eq_true (by omega)
    clear c7
    (first | rw [c7b0] | (simp only [i64_w, i32_w]; rw [c7b0]) | skip)
    have H' := Aside0.mk H
    clear H
    go_wp2
    go_meet
    case rel => exact ⟨_, (true), (by first | rfl | (simp; done) | (simp [*]; done)), H', ⟨by first | omega | exact Nat.le_refl _⟩, ⟨by repeat (first | (with_reducible first | exact HB.out | apply below_alloc | apply pw_below_drewN | apply below_drew1) | exact HB.out)⟩⟩
   ·rw [if_neg c7] at H
    have c7b0 : decide (20 < (l0.length : Int)) = false := decide_eq_false c7
    have c7b1 : decide (20 < l0.length) = false := decide_eq_false (by omega)
    clear c7
    (first | rw [c7b0] | (simp only [i64_w, i32_w]; rw [c7b0]) | skip)
    by_cases c8 : (l1.length : Int) > 40
    ·rw [if_pos c8] at H
     have c8b0 : decide (40 < (l1.length : Int)) = true := decide_eq_true c8
     have c8b1 : decide (40 < l1.length) = true := decide_eq_true (by omega)
     clear c8
     by_cases c9 : (l1.length : Int) ≤ 256
     ·rw [if_pos c9] at H
      have c9b0 : decide ((l1.length : Int) ≤ 256) = true := decide_eq_true c9
      have c9b1 : decide (l1.length ≤ 256) = true := decide_eq_true (by omega)
      clear c9
      have H' := Aside0.mk H
      clear H
      go_wp2
      go_meet
      case rel => exact ⟨_, (true), (by first | rfl | (simp; done) | (simp [*]; done)), H', ⟨by first | omega | exact Nat.le_refl _⟩, ⟨by repeat (first | (with_reducible first | exact HB.out | apply below_alloc | apply pw_below_drewN | apply below_drew1) | exact HB.out)⟩⟩
     ·rw [if_neg c9] at H
      have c9b0 : decide ((l1.length : Int) ≤ 256) = false := decide_eq_false c9
      have c9b1 : decide (l1.length ≤ 256) = false := decide_eq_false (by omega)
      clear c9
      have H' := Aside0.mk H
      clear H
      go_wp2
      go_meet
      case rel => exact ⟨_, (decide ((l1.length : Int) > 300)), (by first | rfl | (simp; done) | (simp [*]; done)), H', ⟨by first | omega | exact Nat.le_refl _⟩, ⟨by repeat (first | (with_reducible first | exact HB.out | apply below_alloc | apply pw_below_drewN | apply below_drew1) | exact HB.out)⟩⟩
    ·rw [if_neg c8] at H
     have c8b0 : decide (40 < (l1.length : Int)) = false := decide_eq_false c8
     have c8b1 : decide (40 < l1.length) = false := decide_eq_false (by omega)
     clear c8
     have H' := Aside0.mk H
     clear H
     go_wp2
     go_meet
     case rel => exact ⟨_, (decide ((l1.length : Int) > 300)), (by first | rfl | (simp; done) | (simp [*]; done)), H', ⟨by first | omega | exact Nat.le_refl _⟩, ⟨by repeat (first | (with_reducible first | exact HB.out | apply below_alloc | apply pw_below_drewN | apply below_drew1) | exact HB.out)⟩⟩
  case rest =>
   clear HC5
   try clear c1
   try clear p2
   try clear c3
   try clear c4
   try clear c7
   try clear c7b0
   try clear c7b1
   try clear c8
   try clear c8b0
   try clear c8b1
   try clear c9
   try clear c9b0
   try clear c9b1
   obtain ⟨kq, x33_4, rfl, HA, HJ4, HB⟩ := hcut
   cases kq with
   | zero => exact absurd HA.out (by simp [gangsawlaw34_GradeChecks.j0])
   | succ kj4 =>
    have H := HA.out
    clear HA
    simp only [gangsawlaw34_GradeChecks.j0] at H
    by_cases c10 : x33_4 = true
    ·subst c10
     have H1 : (some true) = some r := by rw [if_pos rfl] at H; exact H
     clear H
     have H := H1
     clear H1
     obtain rfl := Option.some.inj H
     simp only [Option.some.injEq, Prod.mk.injEq] at H
     obtain ⟨rfl⟩ := H
     go_wp2
     go_ret
     exact ⟨by first | rfl | (simp [errW_none, errW_some] <;> rfl) | (simp [*, errW_none, errW_some] <;> rfl), by repeat (first | (with_reducible first | exact HB.out | apply below_alloc | apply pw_below_drewN | apply below_drew1) | exact HB.out)⟩
    ·replace c10 := Bool.eq_false_iff.mpr c10
     subst c10
     have H1 : ((grade_Of.f kj4 l0 l1).bind fun bt196 => ((gangsawref34_Of.f kj4 l0 l1).bind fun bt198 => ((grade_Check.f kj4 l0).bind fun t200 => ((gangsawref34_Check.f kj4 l0).bind fun t201 => (if t200 = t201 then (if bt196.1.toList = bt198.1.toList then (gangsawlaw34_GradeChecks.j1 kj4 l0 l1 (bt196.2 != bt198.2)) else (gangsawlaw34_GradeChecks.j1 kj4 l0 l1 true)) else (gangsawlaw34_GradeChecks.j1 kj4 l0 l1 true)))))) = some r := by rw [if_neg (show ¬ (false = true) by decide)] at H; exact H
     clear H
     have H := H1
     clear H1
     replace H := Option.bind_eq_some_iff.mp H
     obtain ⟨⟨t196, t197⟩, A110, H⟩ := H
     replace H : ((gangsawref34_Of.f kj4 l0 l1).bind fun bt198 => ((grade_Check.f kj4 l0).bind fun t200 => ((gangsawref34_Check.f kj4 l0).bind fun t201 => (if t200 = t201 then (if t196.toList = bt198.1.toList then (gangsawlaw34_GradeChecks.j1 kj4 l0 l1 (t197 != bt198.2)) else (gangsawlaw34_GradeChecks.j1 kj4 l0 l1 true)) else (gangsawlaw34_GradeChecks.j1 kj4 l0 l1 true))))) = some r := H
     have A11 := Aside0.mk A110
     clear A110
     replace H := Option.bind_eq_some_iff.mp H
     obtain ⟨⟨t198, t199⟩, A120, H⟩ := H
     replace H : ((grade_Check.f kj4 l0).bind fun t200 => ((gangsawref34_Check.f kj4 l0).bind fun t201 => (if t200 = t201 then (if t196.toList = t198.toList then (gangsawlaw34_GradeChecks.j1 kj4 l0 l1 (t197 != t199)) else (gangsawlaw34_GradeChecks.j1 kj4 l0 l1 true)) else (gangsawlaw34_GradeChecks.j1 kj4 l0 l1 true)))) = some r := H
     have A12 := Aside0.mk A120
     clear A120
     have HC13 := Aside0.mk H
     clear H
     go_upto_region 7 with (first | ((with_reducible refine gate_callee (f := 10) rfl ?_); refine goesL_ (some 37) rfl rfl Tryd.func10 (by kernel_rfl) rfl #[.slice A0 l0.length c0, .slice A1 l1.length c1] rfl (by (try simp only [List.map_toArray, List.map_cons, List.map_nil]); first | done | rfl | (simp only [List.length_drop, List.length_take]; rfl)) ?_; (with_reducible refine (grade_Of.calls kj4 _ _ l0 _ _ l1 t196 t197 _ ?side1 ?side2 ?side3 ?side4 A11.out).mono ?_); (case side1 => repeat (first | exact (Kd.C_below HR0.out HB.out) | (with_reducible refine Kd.C_alloc ?_ _) | (with_reducible refine Kd.C_drewN ?_ _) | (with_reducible refine Kd.C_drew ?_))); (case side2 => exact HC0.out); (case side3 => repeat (first | exact (Kd.C_below HR1.out HB.out) | (with_reducible refine Kd.C_alloc ?_ _) | (with_reducible refine Kd.C_drewN ?_ _) | (with_reducible refine Kd.C_drew ?_))); (case side4 => exact HC1.out); rintro e w14 ⟨rfl, hb⟩; refine ⟨_, rfl, ?_⟩; have n0_ := Aside0.mk (below_step (by repeat (first | (with_reducible first | exact HB.out | apply below_alloc | apply pw_below_drewN | apply below_drew1) | exact HB.out)) hb); clear HB; have HB := n0_; clear n0_; (try clear hb); (try clear hb2); (try clear hk); (try clear hi)) | ((with_reducible refine gate_callee (f := 11) rfl ?_); refine goesL_ (some 43) rfl rfl Tryd.func11 (by kernel_rfl) rfl #[.slice A0 l0.length c0, .slice A1 l1.length c1] rfl (by (try simp only [List.map_toArray, List.map_cons, List.map_nil]); first | done | rfl | (simp only [List.length_drop, List.length_take]; rfl)) ?_; (with_reducible refine (gangsawref34_Of.calls kj4 _ _ l0 _ _ l1 t198 t199 _ ?side1 ?side2 ?side3 ?side4 A12.out).mono ?_); (case side1 => repeat (first | exact (Kd.C_below HR0.out HB.out) | (with_reducible refine Kd.C_alloc ?_ _) | (with_reducible refine Kd.C_drewN ?_ _) | (with_reducible refine Kd.C_drew ?_))); (case side2 => exact HC0.out); (case side3 => repeat (first | exact (Kd.C_below HR1.out HB.out) | (with_reducible refine Kd.C_alloc ?_ _) | (with_reducible refine Kd.C_drewN ?_ _) | (with_reducible refine Kd.C_drew ?_))); (case side4 => exact HC1.out); rintro e w15 ⟨rfl, hb⟩; refine ⟨_, rfl, ?_⟩; have n0_ := Aside0.mk (below_step (by repeat (first | (with_reducible first | exact HB.out | apply below_alloc | apply pw_below_drewN | apply below_drew1) | exact HB.out)) hb); clear HB; have HB := n0_; clear n0_; (try clear hb); (try clear hb2); (try clear hk); (try clear hi)))
     (try simp only [Act.put, List.setIfInBounds_toArray, List.set_cons_zero, List.set_cons_succ])
     go_cut [60] (fun v60 wc => ∃ (kq : Nat) (x60_12 : Bool), v60 = .bool x60_12 ∧ Aside0 (gangsawlaw34_GradeChecks.j1 kq l0 l1 x60_12 = some r) ∧ Aside0 (kq ≤ kj4) ∧ Aside0 (Below w.heap.size w wc))
     case first =>
      have H := HC13.out
      clear HC13
      replace H := Option.bind_eq_some_iff.mp H
      obtain ⟨t200, A160, H⟩ := H
      replace H : ((gangsawref34_Check.f kj4 l0).bind fun t201 => (if t200 = t201 then (if t196.toList = t198.toList then (gangsawlaw34_GradeChecks.j1 kj4 l0 l1 (t197 != t199)) else (gangsawlaw34_GradeChecks.j1 kj4 l0 l1 true)) else (gangsawlaw34_GradeChecks.j1 kj4 l0 l1 true))) = some r := H
      have A16 := Aside0.mk A160
      clear A160
      replace H := Option.bind_eq_some_iff.mp H
      obtain ⟨t201, A170, H⟩ := H
      replace H : (if t200 = t201 then (if t196.toList = t198.toList then (gangsawlaw34_GradeChecks.j1 kj4 l0 l1 (t197 != t199)) else (gangsawlaw34_GradeChecks.j1 kj4 l0 l1 true)) else (gangsawlaw34_GradeChecks.j1 kj4 l0 l1 true)) = some r := H
      have A17 := Aside0.mk A170
      clear A170
      by_cases c18 : t200 = t201
      ·rw [if_pos c18] at H
       have c18b0 : (t200 == t201) = true := beq_iff_eq.mpr c18
       have c18b1 : (t200 != t201) = false := bne_eq_false_iff_eq.mpr c18
       clear c18
       (first | rw [c18b0] | (simp only [i64_w, i32_w]; rw [c18b0]) | skip)
       by_cases c19 : t196.toList = t198.toList
       ·rw [if_pos c19] at H
        have c19b0 : (t196.toList == t198.toList) = true := beq_iff_eq.mpr c19
        have c19b1 : (t196.toList != t198.toList) = false := bne_eq_false_iff_eq.mpr c19
        clear c19
        have H' := Aside0.mk H
        clear H
        go_wp2_with (first | ((with_reducible refine gate_callee (f := 12) rfl ?_); refine goesL_ (some 47) rfl rfl Tryd.func12 (by kernel_rfl) rfl #[.slice A0 l0.length c0] rfl (by (try simp only [List.map_toArray, List.map_cons, List.map_nil]); first | done | rfl | (simp only [List.length_drop, List.length_take]; rfl)) ?_; (with_reducible refine (grade_Check.calls kj4 _ _ l0 t200 _ ?side1 ?side2 A16.out).mono ?_); (case side1 => repeat (first | exact (Kd.C_below HR0.out HB.out) | (with_reducible refine Kd.C_alloc ?_ _) | (with_reducible refine Kd.C_drewN ?_ _) | (with_reducible refine Kd.C_drew ?_))); (case side2 => exact HC0.out); rintro e w20 ⟨rfl, hb⟩; refine ⟨_, rfl, ?_⟩; have n0_ := Aside0.mk (below_step (by repeat (first | (with_reducible first | exact HB.out | apply below_alloc | apply pw_below_drewN | apply below_drew1) | exact HB.out)) hb); clear HB; have HB := n0_; clear n0_; (try clear hb); (try clear hb2); (try clear hk); (try clear hi)) | ((with_reducible refine gate_callee (f := 13) rfl ?_); refine goesL_ (some 49) rfl rfl Tryd.func13 (by kernel_rfl) rfl #[.slice A0 l0.length c0] rfl (by (try simp only [List.map_toArray, List.map_cons, List.map_nil]); first | done | rfl | (simp only [List.length_drop, List.length_take]; rfl)) ?_; (with_reducible refine (gangsawref34_Check.calls kj4 _ _ l0 t201 _ ?side1 ?side2 A17.out).mono ?_); (case side1 => repeat (first | exact (Kd.C_below HR0.out HB.out) | (with_reducible refine Kd.C_alloc ?_ _) | (with_reducible refine Kd.C_drewN ?_ _) | (with_reducible refine Kd.C_drew ?_))); (case side2 => exact HC0.out); rintro e w' ⟨rfl, ⟨nd, rfl⟩⟩; refine ⟨_, rfl, ?_⟩))
        go_meet
        case rel => exact ⟨_, ((t197 != t199)), (by first | rfl | (simp; done) | (simp [*]; done)), H', ⟨by have := HJ4.out; first | omega | exact Nat.le_refl _⟩, ⟨by repeat (first | (with_reducible first | exact HB.out | apply below_alloc | apply pw_below_drewN | apply below_drew1) | exact HB.out)⟩⟩
       ·rw [if_neg c19] at H
        have c19b0 : (t196.toList == t198.toList) = false := beq_eq_false_iff_ne.mpr c19
        have c19b1 : (t196.toList != t198.toList) = true := bne_iff_ne.mpr c19
        have H' := Aside0.mk H
        clear H
        go_wp2_with (first | ((with_reducible refine gate_callee (f := 12) rfl ?_); refine goesL_ (some 47) rfl rfl Tryd.func12 (by kernel_rfl) rfl #[.slice A0 l0.length c0] rfl (by (try simp only [List.map_toArray, List.map_cons, List.map_nil]); first | done | rfl | (simp only [List.length_drop, List.length_take]; rfl)) ?_; (with_reducible refine (grade_Check.calls kj4 _ _ l0 t200 _ ?side1 ?side2 A16.out).mono ?_); (case side1 => repeat (first | exact (Kd.C_below HR0.out HB.out) | (with_reducible refine Kd.C_alloc ?_ _) | (with_reducible refine Kd.C_drewN ?_ _) | (with_reducible refine Kd.C_drew ?_))); (case side2 => exact HC0.out); rintro e w21 ⟨rfl, hb⟩; refine ⟨_, rfl, ?_⟩; have n0_ := Aside0.mk (below_step (by repeat (first | (with_reducible first | exact HB.out | apply below_alloc | apply pw_below_drewN | apply below_drew1) | exact HB.out)) hb); clear HB; have HB := n0_; clear n0_; (try clear hb); (try clear hb2); (try clear hk); (try clear hi)) | ((with_reducible refine gate_callee (f := 13) rfl ?_); refine goesL_ (some 49) rfl rfl Tryd.func13 (by kernel_rfl) rfl #[.slice A0 l0.length c0] rfl (by (try simp only [List.map_toArray, List.map_cons, List.map_nil]); first | done | rfl | (simp only [List.length_drop, List.length_take]; rfl)) ?_; (with_reducible refine (gangsawref34_Check.calls kj4 _ _ l0 t201 _ ?side1 ?side2 A17.out).mono ?_); (case side1 => repeat (first | exact (Kd.C_below HR0.out HB.out) | (with_reducible refine Kd.C_alloc ?_ _) | (with_reducible refine Kd.C_drewN ?_ _) | (with_reducible refine Kd.C_drew ?_))); (case side2 => exact HC0.out); rintro e w' ⟨rfl, ⟨nd, rfl⟩⟩; refine ⟨_, rfl, ?_⟩))
        go_meet
        case rel => exact ⟨_, (true), (by first | rfl | (simp; done) | (simp [*]; done)), H', ⟨by have := HJ4.out; first | omega | exact Nat.le_refl _⟩, ⟨by repeat (first | (with_reducible first | exact HB.out | apply below_alloc | apply pw_below_drewN | apply below_drew1) | exact HB.out)⟩⟩
      ·rw [if_neg c18] at H
       have c18b0 : (t200 == t201) = false := beq_eq_false_iff_ne.mpr c18
       have c18b1 : (t200 != t201) = true := bne_iff_ne.mpr c18
       (first | rw [c18b0] | (simp only [i64_w, i32_w]; rw [c18b0]) | skip)
       have H' := Aside0.mk H
       clear H
       go_wp2_with (first | ((with_reducible refine gate_callee (f := 12) rfl ?_); refine goesL_ (some 47) rfl rfl Tryd.func12 (by kernel_rfl) rfl #[.slice A0 l0.length c0] rfl (by (try simp only [List.map_toArray, List.map_cons, List.map_nil]); first | done | rfl | (simp only [List.length_drop, List.length_take]; rfl)) ?_; (with_reducible refine (grade_Check.calls kj4 _ _ l0 t200 _ ?side1 ?side2 A16.out).mono ?_); (case side1 => repeat (first | exact (Kd.C_below HR0.out HB.out) | (with_reducible refine Kd.C_alloc ?_ _) | (with_reducible refine Kd.C_drewN ?_ _) | (with_reducible refine Kd.C_drew ?_))); (case side2 => exact HC0.out); rintro e w22 ⟨rfl, hb⟩; refine ⟨_, rfl, ?_⟩; have n0_ := Aside0.mk (below_step (by repeat (first | (with_reducible first | exact HB.out | apply below_alloc | apply pw_below_drewN | apply below_drew1) | exact HB.out)) hb); clear HB; have HB := n0_; clear n0_; (try clear hb); (try clear hb2); (try clear hk); (try clear hi)) | ((with_reducible refine gate_callee (f := 13) rfl ?_); refine goesL_ (some 49) rfl rfl Tryd.func13 (by kernel_rfl) rfl #[.slice A0 l0.length c0] rfl (by (try simp only [List.map_toArray, List.map_cons, List.map_nil]); first | done | rfl | (simp only [List.length_drop, List.length_take]; rfl)) ?_; (with_reducible refine (gangsawref34_Check.calls kj4 _ _ l0 t201 _ ?side1 ?side2 A17.out).mono ?_); (case side1 => repeat (first | exact (Kd.C_below HR0.out HB.out) | (with_reducible refine Kd.C_alloc ?_ _) | (with_reducible refine Kd.C_drewN ?_ _) | (with_reducible refine Kd.C_drew ?_))); (case side2 => exact HC0.out); rintro e w' ⟨rfl, ⟨nd, rfl⟩⟩; refine ⟨_, rfl, ?_⟩))
       go_meet
       case rel => exact ⟨_, (true), (by first | rfl | (simp; done) | (simp [*]; done)), H', ⟨by have := HJ4.out; first | omega | exact Nat.le_refl _⟩, ⟨by repeat (first | (with_reducible first | exact HB.out | apply below_alloc | apply pw_below_drewN | apply below_drew1) | exact HB.out)⟩⟩
     case rest =>
      clear HC13
      try clear c1
      try clear p2
      try clear c3
      try clear c4
      try clear c7
      try clear c7b0
      try clear c7b1
      try clear c8
      try clear c8b0
      try clear c8b1
      try clear c9
      try clear c9b0
      try clear c9b1
      try clear c10
      try clear c11
      try clear c12
      try clear c13
      try clear c18
      try clear c18b0
      try clear c18b1
      try clear c19
      try clear c19b0
      try clear c19b1
      try clear p2
      obtain ⟨kq, x60_12, rfl, HA, HJ12, HB⟩ := hcut
      cases kq with
      | zero => exact absurd HA.out (by simp [gangsawlaw34_GradeChecks.j1])
      | succ kj12 =>
       have H := HA.out
       clear HA
       simp only [gangsawlaw34_GradeChecks.j1] at H
       by_cases c23 : x60_12 = true
       ·subst c23
        have H1 : (some false) = some r := by rw [if_pos rfl] at H; exact H
        clear H
        have H := H1
        clear H1
        obtain rfl := Option.some.inj H
        exact absurd hr (by decide)
       ·replace c23 := Bool.eq_false_iff.mpr c23
        subst c23
        have H1 : (gangsawlaw34_GradeChecks.l0 kj12 l0 l1 0) = some r := by rw [if_neg (show ¬ (false = true) by decide)] at H; exact H
        clear H
        have H := H1
        clear H1
        have H' := Aside0.mk H
        clear H
        go_wp2
        go_loopg [9] kj12 (fun kq v9 w' => ∃ (x9_3 : Int), v9 = .int .i64 x9_3 ∧ Aside0 (gangsawlaw34_GradeChecks.l0 kq l0 l1 x9_3 = some r) ∧ Aside0 (kq ≤ kj12) ∧ Aside0 (Below w.heap.size w w'))
        case atStart => exact ⟨(0), (by first | rfl | (simp; done) | (simp [*]; done)), H', ⟨Nat.le_refl _⟩, ⟨by repeat (first | (with_reducible first | exact HB.out | apply below_alloc | apply pw_below_drewN | apply below_drew1) | exact HB.out)⟩⟩
        case round =>
         clear H'
         try clear c1
         try clear c2
         try clear p2
         try clear c3
         try clear c4
         try clear c7
         try clear c7b0
         try clear c7b1
         try clear c8
         try clear c8b0
         try clear c8b1
         try clear c9
         try clear c9b0
         try clear c9b1
         try clear c10
         try clear c11
         try clear c12
         try clear c13
         try clear c18
         try clear c18b0
         try clear c18b1
         try clear c19
         try clear c19b0
         try clear c19b1
         try clear c23
         try clear p2
         obtain ⟨x9_3, rfl, HA, HK3, HB⟩ := hrel
         cases gk with
         | zero => exact absurd HA.out (by simp [gangsawlaw34_GradeChecks.l0])
         | succ k3 =>
          have H := HA.out
          clear HA
          simp only [gangsawlaw34_GradeChecks.l0] at H
          by_cases c24 : x9_3 < (l0.length : Int)
          ·rw [if_pos c24] at H
           have c24b0 : decide (x9_3 < (l0.length : Int)) = true := decide_eq_true c24
           clear c24
           by_cases c25 : 0 ≤ x9_3
           ·rw [if_pos c25] at H
            have c25b0 : decide (0 ≤ x9_3) = true := decide_eq_true c25
            clear c25
            replace H := Option.bind_eq_some_iff.mp H
            obtain ⟨⟨t203, t204⟩, A260, H⟩ := H
            replace H : ((gangsawref34_Meets.f k3 ((rd_T32 l0 x9_3).f0) ((rd_T32 l0 x9_3).f1) ((rd_T32 l0 x9_3).f2) ((rd_T32 l0 x9_3).f3) l1).bind fun bt206 => (if (t203 != bt206.1) = true then (some false) else (if t204 = bt206.2 then (gangsawlaw34_GradeChecks.l0 k3 l0 l1 (wrap64 (x9_3 + 1))) else (some false)))) = some r := H
            have A26 := Aside0.mk A260
            clear A260
            replace H := Option.bind_eq_some_iff.mp H
            obtain ⟨⟨t206, t207⟩, A270, H⟩ := H
            replace H : (if (t203 != t206) = true then (some false) else (if t204 = t207 then (gangsawlaw34_GradeChecks.l0 k3 l0 l1 (wrap64 (x9_3 + 1))) else (some false))) = some r := H
            have A27 := Aside0.mk A270
            clear A270
            by_cases c28 : (t203 != t206) = true
            ·rw [if_pos c28] at H
             have c28b0 : (t203 != t206) = true := c28
             (try (have c28b1 : decide (t203 = t206) = false := by simpa using c28))
             (try (have c28b2 : (t203 == t206) = false := by simpa using c28))
             (try (have c28b3 : ¬ (t203 = t206) := by simpa using c28))
             clear c28
             obtain rfl := Option.some.inj H
             exact absurd hr (by decide)
            ·rw [if_neg c28] at H
             have c28b0 : (t203 != t206) = false := by simpa using c28
             (try (have c28b1 : decide (t203 = t206) = true := by simpa using c28))
             (try (have c28b2 : (t203 == t206) = true := by simpa using c28))
             clear c28
             by_cases c29 : t204 = t207
             ·rw [if_pos c29] at H
              have c29b0 : (t204 == t207) = true := beq_iff_eq.mpr c29
              have c29b1 : (t204 != t207) = false := bne_eq_false_iff_eq.mpr c29
              clear c29
              have H' := Aside0.mk H
              clear H
              have p202 : 0 ≤ (x9_3 : Int) := of_decide_eq_true (by first | (with_reducible assumption) | assumption)
              have q202 : x9_3 < (l0.length : Int) := of_decide_eq_true (by first | (with_reducible assumption) | assumption)
              obtain ⟨ad202, e202, hx202_0, hx202_1, hx202_2, hx202_3⟩ := at_T32 HR0.out x9_3 p202 q202
              cases e202
              replace hx202_0 := (HB.out.cell (World.block_lt_of_cell? w _ hx202_0)).trans hx202_0
              replace hx202_1 := (HB.out.cell (World.block_lt_of_cell? w _ hx202_1)).trans hx202_1
              replace hx202_2 := (HB.out.cell (World.block_lt_of_cell? w _ hx202_2)).trans hx202_2
              replace hx202_3 := (HB.out.cell (World.block_lt_of_cell? w _ hx202_3)).trans hx202_3
              replace p202 := eq_true p202
              replace q202 := eq_true q202
              go_wp2_with (first | ((with_reducible refine gate_callee (f := 14) rfl ?_); refine goesL_ (some 73) rfl rfl Tryd.func14 (by kernel_rfl) rfl #[.agg #[.string ((rd_T32 l0 x9_3).f0), .int .i64 ((rd_T32 l0 x9_3).f1), .int .i64 ((rd_T32 l0 x9_3).f2), .int .i64 ((rd_T32 l0 x9_3).f3)], .slice A1 l1.length c1] rfl (by (try simp only [List.map_toArray, List.map_cons, List.map_nil]); first | done | rfl | (simp only [List.length_drop, List.length_take]; rfl)) ?_; (with_reducible refine (grade_Meets.calls k3 ((rd_T32 l0 x9_3).f0) ((rd_T32 l0 x9_3).f1) ((rd_T32 l0 x9_3).f2) ((rd_T32 l0 x9_3).f3) _ _ l1 t203 t204 _ ?side1 ?side2 A26.out).mono ?_); (case side1 => repeat (first | exact (Kd.C_below HR1.out HB.out) | (with_reducible refine Kd.C_alloc ?_ _) | (with_reducible refine Kd.C_drewN ?_ _) | (with_reducible refine Kd.C_drew ?_))); (case side2 => exact HC1.out); rintro e w30 ⟨rfl, hb⟩; refine ⟨_, rfl, ?_⟩; have n0_ := Aside0.mk (below_step (by repeat (first | (with_reducible first | exact HB.out | apply below_alloc | apply pw_below_drewN | apply below_drew1) | exact HB.out)) hb); clear HB; have HB := n0_; clear n0_; (try clear hb); (try clear hb2); (try clear hk); (try clear hi); have p205 : 0 ≤ (x9_3 : Int) := of_decide_eq_true (by first | (with_reducible assumption) | assumption); have q205 : x9_3 < (l0.length : Int) := of_decide_eq_true (by first | (with_reducible assumption) | assumption); obtain ⟨ad205, e205, hx205_0, hx205_1, hx205_2, hx205_3⟩ := at_T32 HR0.out x9_3 p205 q205; obtain rfl : ad202 = ad205 := (by injection e205); replace hx205_0 := (HB.out.cell (World.block_lt_of_cell? w _ hx205_0)).trans hx205_0; replace hx205_1 := (HB.out.cell (World.block_lt_of_cell? w _ hx205_1)).trans hx205_1; replace hx205_2 := (HB.out.cell (World.block_lt_of_cell? w _ hx205_2)).trans hx205_2; replace hx205_3 := (HB.out.cell (World.block_lt_of_cell? w _ hx205_3)).trans hx205_3; replace p205 := eq_true p205; replace q205 := eq_true q205) | ((with_reducible refine gate_callee (f := 15) rfl ?_); refine goesL_ (some 82) rfl rfl Tryd.func15 (by kernel_rfl) rfl #[.agg #[.string ((rd_T32 l0 x9_3).f0), .int .i64 ((rd_T32 l0 x9_3).f1), .int .i64 ((rd_T32 l0 x9_3).f2), .int .i64 ((rd_T32 l0 x9_3).f3)], .slice A1 l1.length c1] rfl (by (try simp only [List.map_toArray, List.map_cons, List.map_nil]); first | done | rfl | (simp only [List.length_drop, List.length_take]; rfl)) ?_; (with_reducible refine (gangsawref34_Meets.calls k3 ((rd_T32 l0 x9_3).f0) ((rd_T32 l0 x9_3).f1) ((rd_T32 l0 x9_3).f2) ((rd_T32 l0 x9_3).f3) _ _ l1 t206 t207 _ ?side1 ?side2 A27.out).mono ?_); (case side1 => repeat (first | exact (Kd.C_below HR1.out HB.out) | (with_reducible refine Kd.C_alloc ?_ _) | (with_reducible refine Kd.C_drewN ?_ _) | (with_reducible refine Kd.C_drew ?_))); (case side2 => exact HC1.out); rintro e w31 ⟨rfl, hb⟩; refine ⟨_, rfl, ?_⟩; have n0_ := Aside0.mk (below_step (by repeat (first | (with_reducible first | exact HB.out | apply below_alloc | apply pw_below_drewN | apply below_drew1) | exact HB.out)) hb); clear HB; have HB := n0_; clear n0_; (try clear hb); (try clear hb2); (try clear hk); (try clear hi)))
              go_roundg k3
              case measure => have := HJ4.out; have := HJ12.out; have := HK3.out; omega
              case rel => exact ⟨(wrap64 (x9_3 + 1)), (by first | rfl | (simp; done) | (simp [*]; done)), H', ⟨by have := HJ4.out; have := HJ12.out; have := HK3.out; omega⟩, ⟨by repeat (first | (with_reducible first | exact HB.out | apply below_alloc | apply pw_below_drewN | apply below_drew1) | exact HB.out)⟩⟩
             ·rw [if_neg c29] at H
              have c29b0 : (t204 == t207) = false := beq_eq_false_iff_ne.mpr c29
              have c29b1 : (t204 != t207) = true := bne_iff_ne.mpr c29
              obtain rfl := Option.some.inj H
              exact absurd hr (by decide)
           ·rw [if_neg c25] at H
            exact absurd H (by simp)
          ·rw [if_neg c24] at H
           have c24b0 : decide (x9_3 < (l0.length : Int)) = false := decide_eq_false c24
           clear c24
           obtain rfl := Option.some.inj H
           simp only [Option.some.injEq, Prod.mk.injEq] at H
           obtain ⟨rfl⟩ := H
           go_wp2
           go_ret
           exact ⟨by first | rfl | (simp [errW_none, errW_some] <;> rfl) | (simp [*, errW_none, errW_some] <;> rfl), by repeat (first | (with_reducible first | exact HB.out | apply below_alloc | apply pw_below_drewN | apply below_drew1) | exact HB.out)⟩
 ·replace c4 := Bool.eq_false_iff.mpr c4
  subst c4
  have H1 : (some false) = some r := by rw [if_neg (show ¬ (false = true) by decide)] at H; exact H
  clear H
  have H := H1
  clear H1
  obtain rfl := Option.some.inj H
  exact absurd hr (by decide)

end Go.Proofs.YtankffbfocaibaaDoor.P
