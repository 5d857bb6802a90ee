/- What functions of the program return: each contract says so of one function, for every input at which its pure function yields. -/
import Derived.Test.YtpfggghpkdnppaaPx0
import Derived.Test.YtpfggghpkdnppaaPx6
import Derived.Test.YtpfggghpkdnppaaPx8
import Derived.Test.YtpfggghpkdnppaaPx9
import Derived.Test.YtpfggghpkdnppaaPx10
import Derived.Test.YtpfggghpkdnppaaPx24
namespace Go.Proofs.Ytpfggghpkdnppaa.P
open Go.RowKit Go.Proofs.YtpfggghpkdnppaaW.PrintWords Go.Proofs.YtpfggghpkdnppaaW.PrintLast Go.Proofs.YtpfggghpkdnppaaW.PrintMore
attribute [local go_sem] max2_int min2_int max_two min_two max_three min_three max_four min_four   -- for this text's walks alone
set_option linter.unusedVariables false
set_option linter.unusedSimpArgs false

mutual
def gangsawlaw49_MachineLonger.j0 : Nat → List (S34) → List (S47) → Bool → ByteArray → Int → Int → Option (Bool)
 | 0, _, _, _, _, _, _ => none
 | k + 1, x0, x1, x26, x494000, x494001, x494002 => if x26 = true then (some true) else ((machine_CheckJobs.f k x0 x1).bind fun t496 => ((machine_Works.f k x0 x1).bind fun t497 => (if t496 = 0 then (if (t497.length : Int) > 0 then (gangsawlaw49_MachineLonger.j1 k x0 x1 t496 true x494000 x494001 x494002) else (if t496 = 3 then (gangsawlaw49_MachineLonger.j1 k x0 x1 t496 ((t497.length : Int) == 0) x494000 x494001 x494002) else (gangsawlaw49_MachineLonger.j1 k x0 x1 t496 false x494000 x494001 x494002))) else (if t496 = 3 then (gangsawlaw49_MachineLonger.j1 k x0 x1 t496 ((t497.length : Int) == 0) x494000 x494001 x494002) else (gangsawlaw49_MachineLonger.j1 k x0 x1 t496 false x494000 x494001 x494002)))))
def gangsawlaw49_MachineLonger.j1 : Nat → List (S34) → List (S47) → Int → Bool → ByteArray → Int → Int → Option (Bool)
 | 0, _, _, _, _, _, _, _ => none
 | k + 1, x0, x1, x7, x48, x494000, x494001, x494002 => if x48 = true then (some false) else (if x7 = 0 then (gangsawlaw49_MachineLonger.l0 k x0 x1 0 x494000 x494001 x494002) else (some true))
def gangsawlaw49_MachineLonger.l0 : Nat → List (S34) → List (S47) → Int → ByteArray → Int → Int → Option (Bool)
 | 0, _, _, _, _, _, _ => none
 | k + 1, x0, x1, x9, x494000, x494001, x494002 => if x9 < (x1.length : Int) then (if 0 ≤ x9 then ((some (([] : List (S36)) : List (S36))).bind fun y502 => (if y502.length + ((rd_T47 x1 x9).f1).length < 4398046511104 then ((some (y502 ++ ((rd_T47 x1 x9).f1) : List (S36))).bind fun y506 => ((some (([(⟨x494000, x494001, x494002⟩ : S36)] : List (S36)) : List (S36))).bind fun y509 => (if y506.length + y509.length < 4398046511104 then ((machine_Chain.f k x0 ((rd_T47 x1 x9).f0) ((rd_T47 x1 x9).f1) ((rd_T47 x1 x9).f2) ((rd_T47 x1 x9).f3) ((rd_T47 x1 x9).f4)).bind fun bt516 => ((machine_Chain.f k x0 ((rd_T47 x1 x9).f0) (y506 ++ y509) ((rd_T47 x1 x9).f2) ((rd_T47 x1 x9).f3) ((rd_T47 x1 x9).f4)).bind fun bt518 => (if bt516.2 = 0 then (if bt518.2 = 0 then (if bt518.1 = (wrap64 ((wrap64 (bt516.1 + x494001)) + x494002)) then (gangsawlaw49_MachineLonger.l0 k x0 x1 (wrap64 (x9 + 1)) x494000 x494001 x494002) else (some false)) else (gangsawlaw49_MachineLonger.l0 k x0 x1 (wrap64 (x9 + 1)) x494000 x494001 x494002)) else (some false)))) else (none)))) else (none))) else (none)) else (some true)
end
def gangsawlaw49_MachineLonger.f (k : Nat) (l0 : List (S34)) (l1 : List (S47)) (a2_0 : ByteArray) (a2_1 : Int) (a2_2 : Int) : Option (Bool) := (gangsawlaw49_awake_N.f).bind fun t494 => (if t494 = true then ((gangsawref49_Small.f k l0 l1).bind fun t495 => (if t495 = true then (gangsawlaw49_MachineLonger.j0 k l0 l1 (decide ((a2_0.size : Int) > 100)) a2_0 a2_1 a2_2) else (gangsawlaw49_MachineLonger.j0 k l0 l1 true a2_0 a2_1 a2_2))) else (some false))
def gangsawlaw49_MachineLonger.T15 : Bool × List (List Nat × List Nat) := (true, [([], []), ([], []), ([], []), ([1, 2], [1, 2]), ([3], [3]), ([4], [4]), ([0, 5], [0, 5]), ([], []), ([7], [7]), ([6, 8, 6], [6, 8]), ([0, 1, 2, 3, 4, 5, 6, 7, 8, 9], []), ([10, 9, 9, 0, 1, 2, 3, 4, 5, 6, 7, 8, 9], [9, 10])])
def gangsawlaw49_MachineLonger.B15 : List Nat := [0, 0, 0, 6, 14, 30, 63, 0, 128, 511, 1023, 2047]
theorem gangsawlaw49_MachineLonger.tab15 : rtab .any (opsOf Try.f8 15) = gangsawlaw49_MachineLonger.T15 := by kernel_rfl
theorem gangsawlaw49_MachineLonger.bits15 : waitsOk gangsawlaw49_MachineLonger.T15.2 gangsawlaw49_MachineLonger.B15 = true := by kernel_rfl
set_option maxHeartbeats 8000000 in
set_option maxRecDepth 100000 in
theorem gangsawlaw49_MachineLonger.calls (k : Nat) (A0 : Option Addr) (c0 : Nat) (l0 : List (S34)) (A1 : Option Addr) (c1 : Nat) (l1 : List (S47)) (a2_0 : ByteArray) (a2_1 : Int) (a2_2 : Int) (r : Bool) (w : World) (hr0 : Kd.C k34 w A0 l0.length l0) (hc0 : l0.length ≤ c0) (hr1 : Kd.C k47 w A1 l1.length l1) (hc1 : l1.length ≤ c1) (h : gangsawlaw49_MachineLonger.f k l0 l1 a2_0 a2_1 a2_2 = some r) (hr : r = true) :
  Calls Try.prog 8 #[.slice A0 l0.length c0, .slice A1 l1.length c1, .agg #[.string a2_0, .int .i64 a2_1, .int .i64 a2_2]] w fun e w' => e = .returned (.bool r) ∧ Below w.heap.size w w' := by
 have hu36 := Try.underlying36
 have hu47 := Try.underlying47
 have HR0 := Aside0.mk hr0
 have HC0 := Aside0.mk hc0
 clear hr0 hc0
 have HR1 := Aside0.mk hr1
 have HC1 := Aside0.mk hc1
 clear hr1 hc1
 have HB := Aside0.mk (Below.refl w.heap.size w)
 have H : ((gangsawlaw49_awake_N.f).bind fun t494 => (if t494 = true then ((gangsawref49_Small.f k l0 l1).bind fun t495 => (if t495 = true then (gangsawlaw49_MachineLonger.j0 k l0 l1 (decide ((a2_0.size : Int) > 100)) a2_0 a2_1 a2_2) else (gangsawlaw49_MachineLonger.j0 k l0 l1 true a2_0 a2_1 a2_2))) else (some false))) = some r := h
 clear h
 replace H := Option.bind_eq_some_iff.mp H
 obtain ⟨t494, A40, H⟩ := H
 replace H : (if t494 = true then ((gangsawref49_Small.f k l0 l1).bind fun t495 => (if t495 = true then (gangsawlaw49_MachineLonger.j0 k l0 l1 (decide ((a2_0.size : Int) > 100)) a2_0 a2_1 a2_2) else (gangsawlaw49_MachineLonger.j0 k l0 l1 true a2_0 a2_1 a2_2))) else (some false)) = some r := H
 have A4 := Aside0.mk A40
 clear A40
 by_cases c5 : t494 = true
 ·subst c5
  have H1 : ((gangsawref49_Small.f k l0 l1).bind fun t495 => (if t495 = true then (gangsawlaw49_MachineLonger.j0 k l0 l1 (decide ((a2_0.size : Int) > 100)) a2_0 a2_1 a2_2) else (gangsawlaw49_MachineLonger.j0 k l0 l1 true a2_0 a2_1 a2_2))) = some r := by rw [if_pos rfl] at H; exact H
  clear H
  have H := H1
  clear H1
  have HC6 := Aside0.mk H
  clear H
  go_enter Try.func8, Try.ntmps8
  go_upto_region 3 with (first | ((with_reducible refine gate_dst (N := 5) rfl ?_); (try (refine gate_guard (by rfl) ?_; dsimp only)); refine box_event ?hg (N := 5) ?hd (cs := #[.string a2_0, .int .i64 a2_1, .int .i64 a2_2]) (t := 36) ?hr ?_; (case hd => rfl); (case hg => rfl); (case hr => first | (go_simp; done) | (go_simp; rfl)); intro gb493 hg w7 hbox hb; have n0_ := Aside0.mk (below_step (by repeat (first | (with_reducible first | exact HB.out | apply below_alloc | apply pw_below_drewN | apply below_drew1) | exact HB.out)) hb); have n1_ := Aside0.mk (hbox); have n2_ := Aside0.mk ((by rw [hg]; exact (below_size (by repeat (first | (with_reducible first | exact HB.out | apply below_alloc | apply pw_below_drewN | apply below_drew1) | exact HB.out))) : w.heap.size ≤ gb493)); have n3_ := Aside0.mk ((by rw [hg]; exact (below_size (by repeat (first | (with_reducible first | exact HB.out | apply below_alloc | apply pw_below_drewN | apply below_drew1) | exact HB.out))) : w.heap.size ≤ gb493)); clear HB; have HB := n0_; have BK493 := n1_; have GW493 := n2_; have GE493 := n3_; clear n0_ n1_ n2_ n3_; clear hb hbox hg) | ((with_reducible refine gate_callee (f := 9) rfl ?_); refine goesL_ (some 15) rfl rfl Try.func9 (by kernel_rfl) rfl #[] rfl (by (try simp only [List.map_toArray, List.map_cons, List.map_nil]); first | done | rfl | (simp only [List.length_drop, List.length_take]; rfl)) ?_; (with_reducible refine (gangsawlaw49_awake_N.calls  true _ A4.out).mono ?_); rintro e w8 ⟨rfl, hb⟩; refine ⟨_, rfl, ?_⟩; have n0_ := Aside0.mk (blk_below (g := gb493) (o := .cells #[.string a2_0, .int .i64 a2_1, .int .i64 a2_2] 36 (0, 0)) (by (with_reducible repeat (first | refine blk_drewN ?_ _ | refine blk_drew ?_ | refine blk_alloc ?_ _)); exact BK493.out) hb); have n1_ := Aside0.mk (below_step (by repeat (first | (with_reducible first | exact HB.out | apply below_alloc | apply pw_below_drewN | apply below_drew1 | refine below_set ?_ GE493.out) | exact HB.out)) hb); clear BK493; clear HB; have BK493 := n0_; have HB := n1_; clear n0_ n1_; (try clear hb); (try clear hb2); (try clear hk); (try clear hi)))
  (try simp only [Act.put, List.setIfInBounds_toArray, List.set_cons_zero, List.set_cons_succ])
  go_cut [26] (fun v26 wc => ∃ (kq : Nat) (x26_5 : Bool), v26 = .bool x26_5 ∧ Aside0 (gangsawlaw49_MachineLonger.j0 kq l0 l1 x26_5 a2_0 a2_1 a2_2 = some r) ∧ Aside0 (kq ≤ k) ∧ Aside0 (wc.heap[gb493]? = some (.cells #[.string a2_0, .int .i64 a2_1, .int .i64 a2_2] 36 (0, 0))) ∧ Aside0 (Below w.heap.size w wc))
  case first =>
   have H := HC6.out
   clear HC6
   replace H := Option.bind_eq_some_iff.mp H
   obtain ⟨t495, A90, H⟩ := H
   replace H : (if t495 = true then (gangsawlaw49_MachineLonger.j0 k l0 l1 (decide ((a2_0.size : Int) > 100)) a2_0 a2_1 a2_2) else (gangsawlaw49_MachineLonger.j0 k l0 l1 true a2_0 a2_1 a2_2)) = some r := H
   have A9 := Aside0.mk A90
   clear A90
   by_cases c10 : t495 = true
   ·subst c10
    have H1 : (gangsawlaw49_MachineLonger.j0 k l0 l1 (decide ((a2_0.size : Int) > 100)) a2_0 a2_1 a2_2) = some r := by rw [if_pos rfl] at H; exact H
    clear H
    have H := H1
    clear H1
    have H' := Aside0.mk H
    clear H
    go_wp2_with (first | ((with_reducible refine gate_callee (f := 10) rfl ?_); refine goesL_ (some 19) rfl rfl Try.func10 (by kernel_rfl) rfl #[.slice A0 l0.length c0, .slice A1 l1.length c1] rfl (by (try simp only [List.map_toArray, List.map_cons, List.map_nil]); first | done | rfl | (simp only [List.length_drop, List.length_take]; rfl)) ?_; (with_reducible refine (gangsawref49_Small.calls k _ _ l0 _ _ l1 true _ ?side1 ?side2 ?side3 ?side4 A9.out).mono ?_); (case side1 => repeat (first | exact (Kd.C_below HR0.out HB.out) | (with_reducible refine Kd.C_alloc ?_ _) | (with_reducible refine Kd.C_drewN ?_ _) | (with_reducible refine Kd.C_drew ?_))); (case side2 => exact HC0.out); (case side3 => repeat (first | exact (Kd.C_below HR1.out HB.out) | (with_reducible refine Kd.C_alloc ?_ _) | (with_reducible refine Kd.C_drewN ?_ _) | (with_reducible refine Kd.C_drew ?_))); (case side4 => exact HC1.out); rintro e w' ⟨rfl, ⟨nd, rfl⟩⟩; refine ⟨_, rfl, ?_⟩; have hcz11_0 : w8.cell? ⟨gb493, 0, none⟩ = some (.string a2_0) := (blk_cell BK493.out 0).trans rfl; have hcz11_1 : w8.cell? ⟨gb493, 1, none⟩ = some (.int .i64 a2_1) := (blk_cell BK493.out 1).trans rfl; have hcz11_2 : w8.cell? ⟨gb493, 2, none⟩ = some (.int .i64 a2_2) := (blk_cell BK493.out 2).trans rfl; have hfz11_0 := blk_frozen BK493.out 0; have hfz11_1 := blk_frozen BK493.out 1; have hfz11_2 := blk_frozen BK493.out 2))
    go_meet
    case rel => exact ⟨_, (decide ((a2_0.size : Int) > 100)), (by first | rfl | (simp; done) | (simp [*]; done)), H', ⟨by first | omega | exact Nat.le_refl _⟩, ⟨by (with_reducible repeat (first | refine blk_drewN ?_ _ | refine blk_drew ?_ | refine blk_alloc ?_ _)); exact BK493.out⟩, ⟨by repeat (first | (with_reducible first | exact HB.out | apply below_alloc | apply pw_below_drewN | apply below_drew1 | refine below_set ?_ GE493.out) | exact HB.out)⟩⟩
   ·replace c10 := Bool.eq_false_iff.mpr c10
    subst c10
    have H1 : (gangsawlaw49_MachineLonger.j0 k l0 l1 true a2_0 a2_1 a2_2) = some r := by rw [if_neg (show ¬ (false = true) by decide)] at H; exact H
    clear H
    have H := H1
    clear H1
    have H' := Aside0.mk H
    clear H
    go_wp2_with (first | ((with_reducible refine gate_callee (f := 10) rfl ?_); refine goesL_ (some 19) rfl rfl Try.func10 (by kernel_rfl) rfl #[.slice A0 l0.length c0, .slice A1 l1.length c1] rfl (by (try simp only [List.map_toArray, List.map_cons, List.map_nil]); first | done | rfl | (simp only [List.length_drop, List.length_take]; rfl)) ?_; (with_reducible refine (gangsawref49_Small.calls k _ _ l0 _ _ l1 false _ ?side1 ?side2 ?side3 ?side4 A9.out).mono ?_); (case side1 => repeat (first | exact (Kd.C_below HR0.out HB.out) | (with_reducible refine Kd.C_alloc ?_ _) | (with_reducible refine Kd.C_drewN ?_ _) | (with_reducible refine Kd.C_drew ?_))); (case side2 => exact HC0.out); (case side3 => repeat (first | exact (Kd.C_below HR1.out HB.out) | (with_reducible refine Kd.C_alloc ?_ _) | (with_reducible refine Kd.C_drewN ?_ _) | (with_reducible refine Kd.C_drew ?_))); (case side4 => exact HC1.out); rintro e w' ⟨rfl, ⟨nd, rfl⟩⟩; refine ⟨_, rfl, ?_⟩))
    go_meet
    case rel => exact ⟨_, (true), (by first | rfl | (simp; done) | (simp [*]; done)), H', ⟨by first | omega | exact Nat.le_refl _⟩, ⟨by (with_reducible repeat (first | refine blk_drewN ?_ _ | refine blk_drew ?_ | refine blk_alloc ?_ _)); exact BK493.out⟩, ⟨by repeat (first | (with_reducible first | exact HB.out | apply below_alloc | apply pw_below_drewN | apply below_drew1 | refine below_set ?_ GE493.out) | exact HB.out)⟩⟩
  case rest =>
   clear HC6
   try clear c1
   try clear p2
   try clear c5
   try clear c8
   try clear c9
   try clear c10
   try clear hcz11_0
   try clear hcz11_1
   try clear hcz11_2
   try clear hfz11_0
   try clear hfz11_1
   try clear hfz11_2
   obtain ⟨kq, x26_5, rfl, HA, HJ5, BK493, HB⟩ := hcut
   cases kq with
   | zero => exact absurd HA.out (by simp [gangsawlaw49_MachineLonger.j0])
   | succ kj5 =>
    have H := HA.out
    clear HA
    simp only [gangsawlaw49_MachineLonger.j0] at H
    by_cases c12 : x26_5 = true
    ·subst c12
     have H1 : (some true) = some r := by rw [if_pos rfl] at H; exact H
     clear H
     have H := H1
     clear H1
     obtain rfl := Option.some.inj H
     simp only [Option.some.injEq, Prod.mk.injEq] at H
     obtain ⟨rfl⟩ := H
     go_wp2
     go_ret
     exact ⟨by first | rfl | (simp [errW_none, errW_some] <;> rfl) | (simp [*, errW_none, errW_some] <;> rfl), by repeat (first | (with_reducible first | exact HB.out | apply below_alloc | apply pw_below_drewN | apply below_drew1 | refine below_set ?_ GE493.out) | exact HB.out)⟩
    ·replace c12 := Bool.eq_false_iff.mpr c12
     subst c12
     have H1 : ((machine_CheckJobs.f kj5 l0 l1).bind fun t496 => ((machine_Works.f kj5 l0 l1).bind fun t497 => (if t496 = 0 then (if (t497.length : Int) > 0 then (gangsawlaw49_MachineLonger.j1 kj5 l0 l1 t496 true a2_0 a2_1 a2_2) else (if t496 = 3 then (gangsawlaw49_MachineLonger.j1 kj5 l0 l1 t496 ((t497.length : Int) == 0) a2_0 a2_1 a2_2) else (gangsawlaw49_MachineLonger.j1 kj5 l0 l1 t496 false a2_0 a2_1 a2_2))) else (if t496 = 3 then (gangsawlaw49_MachineLonger.j1 kj5 l0 l1 t496 ((t497.length : Int) == 0) a2_0 a2_1 a2_2) else (gangsawlaw49_MachineLonger.j1 kj5 l0 l1 t496 false a2_0 a2_1 a2_2))))) = some r := by rw [if_neg (show ¬ (false = true) by decide)] at H; exact H
     clear H
     have H := H1
     clear H1
     replace H := Option.bind_eq_some_iff.mp H
     obtain ⟨t496, A130, H⟩ := H
     replace H : ((machine_Works.f kj5 l0 l1).bind fun t497 => (if t496 = 0 then (if (t497.length : Int) > 0 then (gangsawlaw49_MachineLonger.j1 kj5 l0 l1 t496 true a2_0 a2_1 a2_2) else (if t496 = 3 then (gangsawlaw49_MachineLonger.j1 kj5 l0 l1 t496 ((t497.length : Int) == 0) a2_0 a2_1 a2_2) else (gangsawlaw49_MachineLonger.j1 kj5 l0 l1 t496 false a2_0 a2_1 a2_2))) else (if t496 = 3 then (gangsawlaw49_MachineLonger.j1 kj5 l0 l1 t496 ((t497.length : Int) == 0) a2_0 a2_1 a2_2) else (gangsawlaw49_MachineLonger.j1 kj5 l0 l1 t496 false a2_0 a2_1 a2_2)))) = some r := H
     have A13 := Aside0.mk A130
     clear A130
     replace H := Option.bind_eq_some_iff.mp H
     obtain ⟨t497, A140, H⟩ := H
     replace H : (if t496 = 0 then (if (t497.length : Int) > 0 then (gangsawlaw49_MachineLonger.j1 kj5 l0 l1 t496 true a2_0 a2_1 a2_2) else (if t496 = 3 then (gangsawlaw49_MachineLonger.j1 kj5 l0 l1 t496 ((t497.length : Int) == 0) a2_0 a2_1 a2_2) else (gangsawlaw49_MachineLonger.j1 kj5 l0 l1 t496 false a2_0 a2_1 a2_2))) else (if t496 = 3 then (gangsawlaw49_MachineLonger.j1 kj5 l0 l1 t496 ((t497.length : Int) == 0) a2_0 a2_1 a2_2) else (gangsawlaw49_MachineLonger.j1 kj5 l0 l1 t496 false a2_0 a2_1 a2_2))) = some r := H
     have A14 := Aside0.mk A140
     clear A140
     have HC15 := Aside0.mk H
     clear H
     go_upto_region 7 with (first | ((with_reducible refine gate_callee (f := 24) rfl ?_); refine goesL_ (some 29) rfl rfl Try.func24 (by kernel_rfl) rfl #[.slice A0 l0.length c0, .slice A1 l1.length c1] rfl (by (try simp only [List.map_toArray, List.map_cons, List.map_nil]); first | done | rfl | (simp only [List.length_drop, List.length_take]; rfl)) ?_; (with_reducible refine (machine_CheckJobs.calls kj5 _ _ l0 _ _ l1 t496 _ ?side1 ?side2 ?side3 ?side4 A13.out).mono ?_); (case side1 => repeat (first | exact (Kd.C_below HR0.out HB.out) | (with_reducible refine Kd.C_alloc ?_ _) | (with_reducible refine Kd.C_drewN ?_ _) | (with_reducible refine Kd.C_drew ?_))); (case side2 => exact HC0.out); (case side3 => repeat (first | exact (Kd.C_below HR1.out HB.out) | (with_reducible refine Kd.C_alloc ?_ _) | (with_reducible refine Kd.C_drewN ?_ _) | (with_reducible refine Kd.C_drew ?_))); (case side4 => exact HC1.out); rintro e w16 ⟨rfl, hb⟩; refine ⟨_, rfl, ?_⟩; have n0_ := Aside0.mk (blk_below (g := gb493) (o := .cells #[.string a2_0, .int .i64 a2_1, .int .i64 a2_2] 36 (0, 0)) (by (with_reducible repeat (first | refine blk_drewN ?_ _ | refine blk_drew ?_ | refine blk_alloc ?_ _)); exact BK493.out) hb); have n1_ := Aside0.mk (below_step (by repeat (first | (with_reducible first | exact HB.out | apply below_alloc | apply pw_below_drewN | apply below_drew1 | refine below_set ?_ GE493.out) | exact HB.out)) hb); clear BK493; clear HB; have BK493 := n0_; have HB := n1_; clear n0_ n1_; (try clear hb); (try clear hb2); (try clear hk); (try clear hi)) | ((with_reducible refine gate_callee (f := 26) rfl ?_); refine goesL_ (some 32) rfl rfl Try.func26 (by kernel_rfl) rfl #[.slice A0 l0.length c0, .slice A1 l1.length c1] rfl (by (try simp only [List.map_toArray, List.map_cons, List.map_nil]); first | done | rfl | (simp only [List.length_drop, List.length_take]; rfl)) ?_; (with_reducible refine (machine_Works.calls kj5 _ _ l0 _ _ l1 t497 _ ?side1 ?side2 ?side3 ?side4 A14.out).mono ?_); (case side1 => repeat (first | exact (Kd.C_below HR0.out HB.out) | (with_reducible refine Kd.C_alloc ?_ _) | (with_reducible refine Kd.C_drewN ?_ _) | (with_reducible refine Kd.C_drew ?_))); (case side2 => exact HC0.out); (case side3 => repeat (first | exact (Kd.C_below HR1.out HB.out) | (with_reducible refine Kd.C_alloc ?_ _) | (with_reducible refine Kd.C_drewN ?_ _) | (with_reducible refine Kd.C_drew ?_))); (case side4 => exact HC1.out); rintro e w17 ⟨v498, rfl, ho0, hb⟩; refine ⟨_, rfl, ?_⟩; have n0_ := Aside0.mk (Kd.R_lower ho0 (below_size (by repeat (first | (with_reducible first | exact HB.out | apply below_alloc | apply pw_below_drewN | apply below_drew1 | refine below_set ?_ GE493.out) | exact HB.out)))); have n1_ := Aside0.mk (blk_below (g := gb493) (o := .cells #[.string a2_0, .int .i64 a2_1, .int .i64 a2_2] 36 (0, 0)) (by (with_reducible repeat (first | refine blk_drewN ?_ _ | refine blk_drew ?_ | refine blk_alloc ?_ _)); exact BK493.out) hb); have n2_ := Aside0.mk (below_step (by repeat (first | (with_reducible first | exact HB.out | apply below_alloc | apply pw_below_drewN | apply below_drew1 | refine below_set ?_ GE493.out) | exact HB.out)) hb); clear BK493; clear HB; have HO499 := n0_; have BK493 := n1_; have HB := n2_; clear n0_ n1_ n2_; (try clear hb); (try clear hb2); (try clear hk); (try clear hi); (try clear ho0)))
     (try simp only [Act.put, List.setIfInBounds_toArray, List.set_cons_zero, List.set_cons_succ])
     go_cut [48] (fun v48 wc => ∃ (kq : Nat) (x48_14 : Bool), v48 = .bool x48_14 ∧ Aside0 (gangsawlaw49_MachineLonger.j1 kq l0 l1 t496 x48_14 a2_0 a2_1 a2_2 = some r) ∧ Aside0 (kq ≤ kj5) ∧ Aside0 (wc.heap[gb493]? = some (.cells #[.string a2_0, .int .i64 a2_1, .int .i64 a2_2] 36 (0, 0))) ∧ Aside0 (Below w.heap.size w wc))
     case first =>
      have H := HC15.out
      clear HC15
      by_cases c18 : t496 = 0
      ·rw [if_pos c18] at H
       have c18b0 : (t496 == 0) = true := beq_iff_eq.mpr c18
       have c18b1 : (t496 != 0) = false := bne_eq_false_iff_eq.mpr c18
       clear c18
       (first | rw [c18b0] | (simp only [i64_w, i32_w]; rw [c18b0]) | skip)
       by_cases c19 : (t497.length : Int) > 0
       ·rw [if_pos c19] at H
        have c19b0 : decide (0 < (t497.length : Int)) = true := decide_eq_true c19
        have c19b1 : decide (0 < t497.length) = true := decide_eq_true (by omega)
        clear c19
        have H' := Aside0.mk H
        clear H
        obtain ⟨Ao20, co20, eo20⟩ := Kd.R_slice HO499.out
        subst eo20
        go_wp2
        go_meet
        case rel => exact ⟨_, (true), (by first | rfl | (simp; done) | (simp [*]; done)), H', ⟨by have := HJ5.out; first | omega | exact Nat.le_refl _⟩, ⟨by (with_reducible repeat (first | refine blk_drewN ?_ _ | refine blk_drew ?_ | refine blk_alloc ?_ _)); exact BK493.out⟩, ⟨by repeat (first | (with_reducible first | exact HB.out | apply below_alloc | apply pw_below_drewN | apply below_drew1 | refine below_set ?_ GE493.out) | exact HB.out)⟩⟩
       ·rw [if_neg c19] at H
        have c19b0 : decide (0 < (t497.length : Int)) = false := decide_eq_false c19
        have c19b1 : decide (0 < t497.length) = false := decide_eq_false (by omega)
        clear c19
        by_cases c21 : t496 = 3
        ·rw [if_pos c21] at H
         have c21b0 : (t496 == 3) = true := beq_iff_eq.mpr c21
         have c21b1 : (t496 != 3) = false := bne_eq_false_iff_eq.mpr c21
         clear c21
         have H' := Aside0.mk H
         clear H
         obtain ⟨Ao22, co22, eo22⟩ := Kd.R_slice HO499.out
         subst eo22
         go_wp2
         go_meet
         case rel => exact ⟨_, (((t497.length : Int) == 0)), (by first | rfl | (simp; done) | (simp [*]; done)), H', ⟨by have := HJ5.out; first | omega | exact Nat.le_refl _⟩, ⟨by (with_reducible repeat (first | refine blk_drewN ?_ _ | refine blk_drew ?_ | refine blk_alloc ?_ _)); exact BK493.out⟩, ⟨by repeat (first | (with_reducible first | exact HB.out | apply below_alloc | apply pw_below_drewN | apply below_drew1 | refine below_set ?_ GE493.out) | exact HB.out)⟩⟩
        ·rw [if_neg c21] at H
         have c21b0 : (t496 == 3) = false := beq_eq_false_iff_ne.mpr c21
         have c21b1 : (t496 != 3) = true := bne_iff_ne.mpr c21
         have H' := Aside0.mk H
         clear H
         obtain ⟨Ao23, co23, eo23⟩ := Kd.R_slice HO499.out
         subst eo23
         go_wp2
         go_meet
         case rel => exact ⟨_, (false), (by first | rfl | (simp; done) | (simp [*]; done)), H', ⟨by have := HJ5.out; first | omega | exact Nat.le_refl _⟩, ⟨by (with_reducible repeat (first | refine blk_drewN ?_ _ | refine blk_drew ?_ | refine blk_alloc ?_ _)); exact BK493.out⟩, ⟨by repeat (first | (with_reducible first | exact HB.out | apply below_alloc | apply pw_below_drewN | apply below_drew1 | refine below_set ?_ GE493.out) | exact HB.out)⟩⟩
      ·rw [if_neg c18] at H
       have c18b0 : (t496 == 0) = false := beq_eq_false_iff_ne.mpr c18
       have c18b1 : (t496 != 0) = true := bne_iff_ne.mpr c18
       (first | rw [c18b0] | (simp only [i64_w, i32_w]; rw [c18b0]) | skip)
       by_cases c24 : t496 = 3
       ·rw [if_pos c24] at H
        have c24b0 : (t496 == 3) = true := beq_iff_eq.mpr c24
        have c24b1 : (t496 != 3) = false := bne_eq_false_iff_eq.mpr c24
        clear c24
        have H' := Aside0.mk H
        clear H
        obtain ⟨Ao25, co25, eo25⟩ := Kd.R_slice HO499.out
        subst eo25
        go_wp2
        go_meet
        case rel => exact ⟨_, (((t497.length : Int) == 0)), (by first | rfl | (simp; done) | (simp [*]; done)), H', ⟨by have := HJ5.out; first | omega | exact Nat.le_refl _⟩, ⟨by (with_reducible repeat (first | refine blk_drewN ?_ _ | refine blk_drew ?_ | refine blk_alloc ?_ _)); exact BK493.out⟩, ⟨by repeat (first | (with_reducible first | exact HB.out | apply below_alloc | apply pw_below_drewN | apply below_drew1 | refine below_set ?_ GE493.out) | exact HB.out)⟩⟩
       ·rw [if_neg c24] at H
        have c24b0 : (t496 == 3) = false := beq_eq_false_iff_ne.mpr c24
        have c24b1 : (t496 != 3) = true := bne_iff_ne.mpr c24
        have H' := Aside0.mk H
        clear H
        go_wp2
        go_meet
        case rel => exact ⟨_, (false), (by first | rfl | (simp; done) | (simp [*]; done)), H', ⟨by have := HJ5.out; first | omega | exact Nat.le_refl _⟩, ⟨by (with_reducible repeat (first | refine blk_drewN ?_ _ | refine blk_drew ?_ | refine blk_alloc ?_ _)); exact BK493.out⟩, ⟨by repeat (first | (with_reducible first | exact HB.out | apply below_alloc | apply pw_below_drewN | apply below_drew1 | refine below_set ?_ GE493.out) | exact HB.out)⟩⟩
     case rest =>
      clear HC15
      try clear c1
      try clear c2
      try clear p2
      try clear c5
      try clear c8
      try clear c9
      try clear c10
      try clear c12
      try clear c18
      try clear c18b0
      try clear c18b1
      try clear c19
      try clear c19b0
      try clear c19b1
      try clear c21
      try clear c21b0
      try clear c21b1
      try clear c24
      try clear c24b0
      try clear c24b1
      try clear hcz11_0
      try clear hcz11_1
      try clear hcz11_2
      try clear hfz11_0
      try clear hfz11_1
      try clear hfz11_2
      try clear p2
      obtain ⟨kq, x48_14, rfl, HA, HJ14, BK493, HB⟩ := hcut
      cases kq with
      | zero => exact absurd HA.out (by simp [gangsawlaw49_MachineLonger.j1])
      | succ kj14 =>
       have H := HA.out
       clear HA
       simp only [gangsawlaw49_MachineLonger.j1] at H
       by_cases c26 : x48_14 = true
       ·subst c26
        have H1 : (some false) = some r := by rw [if_pos rfl] at H; exact H
        clear H
        have H := H1
        clear H1
        obtain rfl := Option.some.inj H
        exact absurd hr (by decide)
       ·replace c26 := Bool.eq_false_iff.mpr c26
        subst c26
        have H1 : (if t496 = 0 then (gangsawlaw49_MachineLonger.l0 kj14 l0 l1 0 a2_0 a2_1 a2_2) else (some true)) = some r := by rw [if_neg (show ¬ (false = true) by decide)] at H; exact H
        clear H
        have H := H1
        clear H1
        by_cases c27 : t496 = 0
        ·rw [if_pos c27] at H
         have c27b0 : (t496 == 0) = true := beq_iff_eq.mpr c27
         have c27b1 : (t496 != 0) = false := bne_eq_false_iff_eq.mpr c27
         clear c27
         have H' := Aside0.mk H
         clear H
         go_wp2
         go_loopg [9] kj14 (fun kq v9 w' => ∃ (x9_3 : Int), v9 = .int .i64 x9_3 ∧ Aside0 (gangsawlaw49_MachineLonger.l0 kq l0 l1 x9_3 a2_0 a2_1 a2_2 = some r) ∧ Aside0 (kq ≤ kj14) ∧ Aside0 (w'.heap[gb493]? = some (.cells #[.string a2_0, .int .i64 a2_1, .int .i64 a2_2] 36 (0, 0))) ∧ Aside0 (Below w.heap.size w w'))
         case atStart => exact ⟨(0), (by first | rfl | (simp; done) | (simp [*]; done)), H', ⟨Nat.le_refl _⟩, ⟨by (with_reducible repeat (first | refine blk_drewN ?_ _ | refine blk_drew ?_ | refine blk_alloc ?_ _)); exact BK493.out⟩, ⟨by repeat (first | (with_reducible first | exact HB.out | apply below_alloc | apply pw_below_drewN | apply below_drew1 | refine below_set ?_ GE493.out) | exact HB.out)⟩⟩
         case round =>
          clear H'
          try clear c1
          try clear c2
          try clear p2
          try clear c5
          try clear c8
          try clear c9
          try clear c10
          try clear c12
          try clear c18
          try clear c18b0
          try clear c18b1
          try clear c19
          try clear c19b0
          try clear c19b1
          try clear c21
          try clear c21b0
          try clear c21b1
          try clear c24
          try clear c24b0
          try clear c24b1
          try clear c26
          try clear c27
          try clear c27b0
          try clear c27b1
          try clear hcz11_0
          try clear hcz11_1
          try clear hcz11_2
          try clear hfz11_0
          try clear hfz11_1
          try clear hfz11_2
          try clear p2
          obtain ⟨x9_3, rfl, HA, HK3, BK493, HB⟩ := hrel
          cases gk with
          | zero => exact absurd HA.out (by simp [gangsawlaw49_MachineLonger.l0])
          | succ k3 =>
           have H := HA.out
           clear HA
           simp only [gangsawlaw49_MachineLonger.l0] at H
           by_cases c28 : x9_3 < (l1.length : Int)
           ·rw [if_pos c28] at H
            have c28b0 : decide (x9_3 < (l1.length : Int)) = true := decide_eq_true c28
            clear c28
            by_cases c29 : 0 ≤ x9_3
            ·rw [if_pos c29] at H
             have c29b0 : decide (0 ≤ x9_3) = true := decide_eq_true c29
             clear c29
             obtain ⟨y502, hy502⟩ : ∃ y_ : List (S36), y_ = (([] : List (S36))) := ⟨_, rfl⟩
             replace H : (if y502.length + ((rd_T47 l1 x9_3).f1).length < 4398046511104 then ((some (y502 ++ ((rd_T47 l1 x9_3).f1) : List (S36))).bind fun y506 => ((some (([(⟨a2_0, a2_1, a2_2⟩ : S36)] : List (S36)) : List (S36))).bind fun y509 => (if y506.length + y509.length < 4398046511104 then ((machine_Chain.f k3 l0 ((rd_T47 l1 x9_3).f0) ((rd_T47 l1 x9_3).f1) ((rd_T47 l1 x9_3).f2) ((rd_T47 l1 x9_3).f3) ((rd_T47 l1 x9_3).f4)).bind fun bt516 => ((machine_Chain.f k3 l0 ((rd_T47 l1 x9_3).f0) (y506 ++ y509) ((rd_T47 l1 x9_3).f2) ((rd_T47 l1 x9_3).f3) ((rd_T47 l1 x9_3).f4)).bind fun bt518 => (if bt516.2 = 0 then (if bt518.2 = 0 then (if bt518.1 = (wrap64 ((wrap64 (bt516.1 + a2_1)) + a2_2)) then (gangsawlaw49_MachineLonger.l0 k3 l0 l1 (wrap64 (x9_3 + 1)) a2_0 a2_1 a2_2) else (some false)) else (gangsawlaw49_MachineLonger.l0 k3 l0 l1 (wrap64 (x9_3 + 1)) a2_0 a2_1 a2_2)) else (some false)))) else (none)))) else (none)) = some r := by first | (rw [hy502]; with_reducible exact H) | (have H2_ := (Option.bind_some _ _).symm.trans H; rw [hy502]; with_reducible exact H2_) | (have H2_ := (Option.bind_some _ _).symm.trans H; with_reducible exact H2_) | with_reducible exact H | (rw [hy502]; exact H) | exact H
             have Ny502 := Aside0.mk hy502
             clear hy502
             by_cases c30 : y502.length + ((rd_T47 l1 x9_3).f1).length < 4398046511104
             ·rw [if_pos c30] at H
              have LMc30 := Aside0.mk c30
              clear c30
              obtain ⟨y506, hy506⟩ : ∃ y_ : List (S36), y_ = (y502 ++ ((rd_T47 l1 x9_3).f1)) := ⟨_, rfl⟩
              replace H : ((some (([(⟨a2_0, a2_1, a2_2⟩ : S36)] : List (S36)) : List (S36))).bind fun y509 => (if y506.length + y509.length < 4398046511104 then ((machine_Chain.f k3 l0 ((rd_T47 l1 x9_3).f0) ((rd_T47 l1 x9_3).f1) ((rd_T47 l1 x9_3).f2) ((rd_T47 l1 x9_3).f3) ((rd_T47 l1 x9_3).f4)).bind fun bt516 => ((machine_Chain.f k3 l0 ((rd_T47 l1 x9_3).f0) (y506 ++ y509) ((rd_T47 l1 x9_3).f2) ((rd_T47 l1 x9_3).f3) ((rd_T47 l1 x9_3).f4)).bind fun bt518 => (if bt516.2 = 0 then (if bt518.2 = 0 then (if bt518.1 = (wrap64 ((wrap64 (bt516.1 + a2_1)) + a2_2)) then (gangsawlaw49_MachineLonger.l0 k3 l0 l1 (wrap64 (x9_3 + 1)) a2_0 a2_1 a2_2) else (some false)) else (gangsawlaw49_MachineLonger.l0 k3 l0 l1 (wrap64 (x9_3 + 1)) a2_0 a2_1 a2_2)) else (some false)))) else (none))) = some r := by first | (rw [hy506]; with_reducible exact H) | (have H2_ := (Option.bind_some _ _).symm.trans H; rw [hy506]; with_reducible exact H2_) | (have H2_ := (Option.bind_some _ _).symm.trans H; with_reducible exact H2_) | with_reducible exact H | (rw [hy506]; exact H) | exact H
              have Ny506 := Aside0.mk hy506
              clear hy506
              obtain ⟨y509, hy509⟩ : ∃ y_ : List (S36), y_ = (([(⟨a2_0, a2_1, a2_2⟩ : S36)] : List (S36))) := ⟨_, rfl⟩
              replace H : (if y506.length + y509.length < 4398046511104 then ((machine_Chain.f k3 l0 ((rd_T47 l1 x9_3).f0) ((rd_T47 l1 x9_3).f1) ((rd_T47 l1 x9_3).f2) ((rd_T47 l1 x9_3).f3) ((rd_T47 l1 x9_3).f4)).bind fun bt516 => ((machine_Chain.f k3 l0 ((rd_T47 l1 x9_3).f0) (y506 ++ y509) ((rd_T47 l1 x9_3).f2) ((rd_T47 l1 x9_3).f3) ((rd_T47 l1 x9_3).f4)).bind fun bt518 => (if bt516.2 = 0 then (if bt518.2 = 0 then (if bt518.1 = (wrap64 ((wrap64 (bt516.1 + a2_1)) + a2_2)) then (gangsawlaw49_MachineLonger.l0 k3 l0 l1 (wrap64 (x9_3 + 1)) a2_0 a2_1 a2_2) else (some false)) else (gangsawlaw49_MachineLonger.l0 k3 l0 l1 (wrap64 (x9_3 + 1)) a2_0 a2_1 a2_2)) else (some false)))) else (none)) = some r := by first | (rw [hy509]; with_reducible exact H) | (have H2_ := (Option.bind_some _ _).symm.trans H; rw [hy509]; with_reducible exact H2_) | (have H2_ := (Option.bind_some _ _).symm.trans H; with_reducible exact H2_) | with_reducible exact H | (rw [hy509]; exact H) | exact H
              have Ny509 := Aside0.mk hy509
              clear hy509
              by_cases c31 : y506.length + y509.length < 4398046511104
              ·rw [if_pos c31] at H
               have LMc31 := Aside0.mk c31
               clear c31
               obtain ⟨y512, hy512⟩ : ∃ y_ : List (S36), y_ = (y506 ++ y509) := ⟨_, rfl⟩
               replace H : ((machine_Chain.f k3 l0 ((rd_T47 l1 x9_3).f0) ((rd_T47 l1 x9_3).f1) ((rd_T47 l1 x9_3).f2) ((rd_T47 l1 x9_3).f3) ((rd_T47 l1 x9_3).f4)).bind fun bt516 => ((machine_Chain.f k3 l0 ((rd_T47 l1 x9_3).f0) y512 ((rd_T47 l1 x9_3).f2) ((rd_T47 l1 x9_3).f3) ((rd_T47 l1 x9_3).f4)).bind fun bt518 => (if bt516.2 = 0 then (if bt518.2 = 0 then (if bt518.1 = (wrap64 ((wrap64 (bt516.1 + a2_1)) + a2_2)) then (gangsawlaw49_MachineLonger.l0 k3 l0 l1 (wrap64 (x9_3 + 1)) a2_0 a2_1 a2_2) else (some false)) else (gangsawlaw49_MachineLonger.l0 k3 l0 l1 (wrap64 (x9_3 + 1)) a2_0 a2_1 a2_2)) else (some false)))) = some r := by first | (rw [hy512]; with_reducible exact H) | (have H2_ := (Option.bind_some _ _).symm.trans H; rw [hy512]; with_reducible exact H2_) | (have H2_ := (Option.bind_some _ _).symm.trans H; with_reducible exact H2_) | with_reducible exact H | (rw [hy512]; exact H) | exact H
               have Ny512 := Aside0.mk hy512
               clear hy512
               replace H := Option.bind_eq_some_iff.mp H
               obtain ⟨⟨t516, t517⟩, A320, H⟩ := H
               replace H : ((machine_Chain.f k3 l0 ((rd_T47 l1 x9_3).f0) y512 ((rd_T47 l1 x9_3).f2) ((rd_T47 l1 x9_3).f3) ((rd_T47 l1 x9_3).f4)).bind fun bt518 => (if t517 = 0 then (if bt518.2 = 0 then (if bt518.1 = (wrap64 ((wrap64 (t516 + a2_1)) + a2_2)) then (gangsawlaw49_MachineLonger.l0 k3 l0 l1 (wrap64 (x9_3 + 1)) a2_0 a2_1 a2_2) else (some false)) else (gangsawlaw49_MachineLonger.l0 k3 l0 l1 (wrap64 (x9_3 + 1)) a2_0 a2_1 a2_2)) else (some false))) = some r := H
               have A32 := Aside0.mk A320
               clear A320
               replace H := Option.bind_eq_some_iff.mp H
               obtain ⟨⟨t518, t519⟩, A330, H⟩ := H
               replace H : (if t517 = 0 then (if t519 = 0 then (if t518 = (wrap64 ((wrap64 (t516 + a2_1)) + a2_2)) then (gangsawlaw49_MachineLonger.l0 k3 l0 l1 (wrap64 (x9_3 + 1)) a2_0 a2_1 a2_2) else (some false)) else (gangsawlaw49_MachineLonger.l0 k3 l0 l1 (wrap64 (x9_3 + 1)) a2_0 a2_1 a2_2)) else (some false)) = some r := H
               have A33 := Aside0.mk A330
               clear A330
               by_cases c34 : t517 = 0
               ·rw [if_pos c34] at H
                have c34b0 : (t517 == 0) = true := beq_iff_eq.mpr c34
                have c34b1 : (t517 != 0) = false := bne_eq_false_iff_eq.mpr c34
                clear c34
                by_cases c35 : t519 = 0
                ·rw [if_pos c35] at H
                 have c35b0 : (t519 == 0) = true := beq_iff_eq.mpr c35
                 have c35b1 : (t519 != 0) = false := bne_eq_false_iff_eq.mpr c35
                 clear c35
                 by_cases c36 : t518 = (wrap64 ((wrap64 (t516 + a2_1)) + a2_2))
                 ·rw [if_pos c36] at H
                  have c36b0 : (t518 == (wrap64 ((wrap64 (t516 + a2_1)) + a2_2))) = true := beq_iff_eq.mpr c36
                  have c36b1 : (t518 != (wrap64 ((wrap64 (t516 + a2_1)) + a2_2))) = false := bne_eq_false_iff_eq.mpr c36
                  clear c36
                  have H' := Aside0.mk H
                  clear H
                  have p500 : 0 ≤ (x9_3 : Int) := of_decide_eq_true (by first | (with_reducible assumption) | assumption)
                  have q500 : x9_3 < (l1.length : Int) := of_decide_eq_true (by first | (with_reducible assumption) | assumption)
                  obtain ⟨ad500, A500_1, c500_1, e500, hx500_0, hx500_1, hx500_2, hx500_3, hx500_4, hl500_1, hi500_1⟩ := at_T47 HR1.out x9_3 p500 q500
                  cases e500
                  replace hx500_0 := (HB.out.cell (World.block_lt_of_cell? w _ hx500_0)).trans hx500_0
                  replace hx500_1 := (HB.out.cell (World.block_lt_of_cell? w _ hx500_1)).trans hx500_1
                  replace hx500_2 := (HB.out.cell (World.block_lt_of_cell? w _ hx500_2)).trans hx500_2
                  replace hx500_3 := (HB.out.cell (World.block_lt_of_cell? w _ hx500_3)).trans hx500_3
                  replace hx500_4 := (HB.out.cell (World.block_lt_of_cell? w _ hx500_4)).trans hx500_4
                  have HR500_1 := Aside0.mk hi500_1
                  have HC500_1 := Aside0.mk hl500_1
                  clear hi500_1 hl500_1
                  replace p500 := eq_true p500
                  replace q500 := eq_true q500
                  try go_wp2_with (first | ((with_reducible refine gate_dst (N := 10) rfl ?_); (try (refine gate_guard (by rfl) ?_; dsimp only)); refine box_event ?hg (N := 10) ?hd (cs := #[.string (⟨#[]⟩ : ByteArray), .slice none 0 0, .int .i64 0, .int .i64 0, .int .i64 0]) (t := 47) ?hr ?_; (case hd => rfl); (case hg => rfl); (case hr => first | (go_simp; done) | (go_simp; rfl)); intro gb501 hg w37 hbox hb; have n0_ := Aside0.mk (blk_below (g := gb493) (o := .cells #[.string a2_0, .int .i64 a2_1, .int .i64 a2_2] 36 (0, 0)) (by (with_reducible repeat (first | refine blk_drewN ?_ _ | refine blk_drew ?_ | refine blk_alloc ?_ _)); exact BK493.out) hb); have n1_ := Aside0.mk (below_step (by repeat (first | (with_reducible first | exact HB.out | apply below_alloc | apply pw_below_drewN | apply below_drew1 | refine below_set ?_ GE493.out) | exact HB.out)) hb); have n2_ := Aside0.mk (hbox); have n3_ := Aside0.mk ((by rw [hg]; exact (below_size (by repeat (first | (with_reducible first | exact HB.out | apply below_alloc | apply pw_below_drewN | apply below_drew1 | refine below_set ?_ GE493.out) | exact HB.out))) : w.heap.size ≤ gb501)); have n4_ := Aside0.mk ((by rw [hg]; exact (below_size (by repeat (first | (with_reducible first | exact HB.out | apply below_alloc | apply pw_below_drewN | apply below_drew1 | refine below_set ?_ GE493.out) | exact HB.out))) : w.heap.size ≤ gb501)); have n5_ := Aside0.mk ((by rw [hg]; exact Nat.ne_of_lt (blk_lt (g := gb493) (o := .cells #[.string a2_0, .int .i64 a2_1, .int .i64 a2_2] 36 (0, 0)) (by (with_reducible repeat (first | refine blk_drewN ?_ _ | refine blk_drew ?_ | refine blk_alloc ?_ _)); exact BK493.out)) : gb493 ≠ gb501)); have n6_ := Aside0.mk ((by rw [hg]; exact Nat.ne_of_gt (blk_lt (g := gb493) (o := .cells #[.string a2_0, .int .i64 a2_1, .int .i64 a2_2] 36 (0, 0)) (by (with_reducible repeat (first | refine blk_drewN ?_ _ | refine blk_drew ?_ | refine blk_alloc ?_ _)); exact BK493.out)) : gb501 ≠ gb493)); clear BK493; clear HB; have BK493 := n0_; have HB := n1_; have BK501 := n2_; have GW501 := n3_; have GE501 := n4_; have NB493_501 := n5_; have NB501_493 := n6_; clear n0_ n1_ n2_ n3_ n4_ n5_ n6_; clear hb hbox hg; have hnb38 := NB501_493.out; have hnc38 := NB493_501.out; have hcz39_0 : w37.cell? ⟨gb501, 0, none⟩ = some (.string (⟨#[]⟩ : ByteArray)) := (blk_cell BK501.out 0).trans rfl; have hcz39_1 : w37.cell? ⟨gb501, 1, none⟩ = some (.slice none 0 0) := (blk_cell BK501.out 1).trans rfl; have hcz39_2 : w37.cell? ⟨gb501, 2, none⟩ = some (.int .i64 0) := (blk_cell BK501.out 2).trans rfl; have hcz39_3 : w37.cell? ⟨gb501, 3, none⟩ = some (.int .i64 0) := (blk_cell BK501.out 3).trans rfl; have hcz39_4 : w37.cell? ⟨gb501, 4, none⟩ = some (.int .i64 0) := (blk_cell BK501.out 4).trans rfl; have hfz39_0 := blk_frozen BK501.out 0; have hfz39_1 := blk_frozen BK501.out 1; have hfz39_2 := blk_frozen BK501.out 2; have hfz39_3 := blk_frozen BK501.out 3; have hfz39_4 := blk_frozen BK501.out 4))
                  have n0_ : Aside0 ((((((w37.setCell ⟨gb501, 0, none⟩ (.string ((rd_T47 l1 x9_3).f0))).setCell ⟨gb501, 1, none⟩ (.slice A500_1 ((rd_T47 l1 x9_3).f1).length c500_1)).setCell ⟨gb501, 2, none⟩ (.int .i64 ((rd_T47 l1 x9_3).f2))).setCell ⟨gb501, 3, none⟩ (.int .i64 ((rd_T47 l1 x9_3).f3))).setCell ⟨gb501, 4, none⟩ (.int .i64 ((rd_T47 l1 x9_3).f4))).heap[gb493]? = some (.cells #[.string a2_0, .int .i64 a2_1, .int .i64 a2_2] 36 (0, 0))) := ⟨by (with_reducible repeat (first | refine blk_drewN ?_ _ | refine blk_drew ?_ | refine blk_alloc ?_ _)); refine blk_far ?_ NB493_501.out _; (with_reducible repeat (first | refine blk_drewN ?_ _ | refine blk_drew ?_ | refine blk_alloc ?_ _)); refine blk_far ?_ NB493_501.out _; (with_reducible repeat (first | refine blk_drewN ?_ _ | refine blk_drew ?_ | refine blk_alloc ?_ _)); refine blk_far ?_ NB493_501.out _; (with_reducible repeat (first | refine blk_drewN ?_ _ | refine blk_drew ?_ | refine blk_alloc ?_ _)); refine blk_far ?_ NB493_501.out _; (with_reducible repeat (first | refine blk_drewN ?_ _ | refine blk_drew ?_ | refine blk_alloc ?_ _)); refine blk_far ?_ NB493_501.out _; (with_reducible repeat (first | refine blk_drewN ?_ _ | refine blk_drew ?_ | refine blk_alloc ?_ _)); exact BK493.out⟩
                  have n1_ : Aside0 ((((((w37.setCell ⟨gb501, 0, none⟩ (.string ((rd_T47 l1 x9_3).f0))).setCell ⟨gb501, 1, none⟩ (.slice A500_1 ((rd_T47 l1 x9_3).f1).length c500_1)).setCell ⟨gb501, 2, none⟩ (.int .i64 ((rd_T47 l1 x9_3).f2))).setCell ⟨gb501, 3, none⟩ (.int .i64 ((rd_T47 l1 x9_3).f3))).setCell ⟨gb501, 4, none⟩ (.int .i64 ((rd_T47 l1 x9_3).f4))).heap[gb501]? = some (.cells #[.string ((rd_T47 l1 x9_3).f0), .slice A500_1 ((rd_T47 l1 x9_3).f1).length c500_1, .int .i64 ((rd_T47 l1 x9_3).f2), .int .i64 ((rd_T47 l1 x9_3).f3), .int .i64 ((rd_T47 l1 x9_3).f4)] 47 (0, 0))) := ⟨by (with_reducible repeat (first | refine blk_drewN ?_ _ | refine blk_drew ?_ | refine blk_alloc ?_ _)); refine blk_put (cs := #[.string ((rd_T47 l1 x9_3).f0), .slice A500_1 ((rd_T47 l1 x9_3).f1).length c500_1, .int .i64 ((rd_T47 l1 x9_3).f2), .int .i64 ((rd_T47 l1 x9_3).f3), .int .i64 0]) ?_ 4 _ rfl; (with_reducible repeat (first | refine blk_drewN ?_ _ | refine blk_drew ?_ | refine blk_alloc ?_ _)); refine blk_put (cs := #[.string ((rd_T47 l1 x9_3).f0), .slice A500_1 ((rd_T47 l1 x9_3).f1).length c500_1, .int .i64 ((rd_T47 l1 x9_3).f2), .int .i64 0, .int .i64 0]) ?_ 3 _ rfl; (with_reducible repeat (first | refine blk_drewN ?_ _ | refine blk_drew ?_ | refine blk_alloc ?_ _)); refine blk_put (cs := #[.string ((rd_T47 l1 x9_3).f0), .slice A500_1 ((rd_T47 l1 x9_3).f1).length c500_1, .int .i64 0, .int .i64 0, .int .i64 0]) ?_ 2 _ rfl; (with_reducible repeat (first | refine blk_drewN ?_ _ | refine blk_drew ?_ | refine blk_alloc ?_ _)); refine blk_put (cs := #[.string ((rd_T47 l1 x9_3).f0), .slice none 0 0, .int .i64 0, .int .i64 0, .int .i64 0]) ?_ 1 _ rfl; (with_reducible repeat (first | refine blk_drewN ?_ _ | refine blk_drew ?_ | refine blk_alloc ?_ _)); refine blk_put (cs := #[.string (⟨#[]⟩ : ByteArray), .slice none 0 0, .int .i64 0, .int .i64 0, .int .i64 0]) ?_ 0 _ rfl; (with_reducible repeat (first | refine blk_drewN ?_ _ | refine blk_drew ?_ | refine blk_alloc ?_ _)); exact BK501.out⟩
                  have n2_ : Aside0 (Below w.heap.size w (((((w37.setCell ⟨gb501, 0, none⟩ (.string ((rd_T47 l1 x9_3).f0))).setCell ⟨gb501, 1, none⟩ (.slice A500_1 ((rd_T47 l1 x9_3).f1).length c500_1)).setCell ⟨gb501, 2, none⟩ (.int .i64 ((rd_T47 l1 x9_3).f2))).setCell ⟨gb501, 3, none⟩ (.int .i64 ((rd_T47 l1 x9_3).f3))).setCell ⟨gb501, 4, none⟩ (.int .i64 ((rd_T47 l1 x9_3).f4)))) := ⟨by repeat (first | (with_reducible first | exact HB.out | apply below_alloc | apply pw_below_drewN | apply below_drew1 | refine below_set ?_ GE493.out | refine below_set ?_ GE501.out) | exact HB.out)⟩
                  (try clear BK493)
                  (try clear BK501)
                  (try clear HB)
                  generalize (((((w37.setCell ⟨gb501, 0, none⟩ (.string ((rd_T47 l1 x9_3).f0))).setCell ⟨gb501, 1, none⟩ (.slice A500_1 ((rd_T47 l1 x9_3).f1).length c500_1)).setCell ⟨gb501, 2, none⟩ (.int .i64 ((rd_T47 l1 x9_3).f2))).setCell ⟨gb501, 3, none⟩ (.int .i64 ((rd_T47 l1 x9_3).f3))).setCell ⟨gb501, 4, none⟩ (.int .i64 ((rd_T47 l1 x9_3).f4))) = w40 at n0_ n1_ n2_ ⊢
                  have BK493 := n0_
                  have BK501 := n1_
                  have HB := n2_
                  clear n0_ n1_ n2_
                  have n0_ := Aside0.mk (blk_drew BK493.out)
                  have n1_ := Aside0.mk (blk_drew BK501.out)
                  have n2_ := Aside0.mk (below_drew1 HB.out)
                  clear BK493
                  clear BK501
                  clear HB
                  have BK493 := n0_
                  have BK501 := n1_
                  have HB := n2_
                  clear n0_ n1_ n2_
                  have p505 : 0 ≤ (x9_3 : Int) := of_decide_eq_true (by first | (with_reducible assumption) | assumption)
                  have q505 : x9_3 < (l1.length : Int) := of_decide_eq_true (by first | (with_reducible assumption) | assumption)
                  obtain ⟨ad505, A505_1, c505_1, e505, hx505_0, hx505_1, hx505_2, hx505_3, hx505_4, hl505_1, hi505_1⟩ := at_T47 HR1.out x9_3 p505 q505
                  have hw505_4 := hx505_4
                  have hw505_3 := hx505_3
                  have hw505_2 := hx505_2
                  have hw505_1 := hx505_1
                  have hw505_0 := hx505_0
                  obtain rfl : ad500 = ad505 := (by injection e505)
                  replace hx505_0 := (HB.out.cell (World.block_lt_of_cell? w _ hx505_0)).trans hx505_0
                  replace hx505_1 := (HB.out.cell (World.block_lt_of_cell? w _ hx505_1)).trans hx505_1
                  replace hx505_2 := (HB.out.cell (World.block_lt_of_cell? w _ hx505_2)).trans hx505_2
                  replace hx505_3 := (HB.out.cell (World.block_lt_of_cell? w _ hx505_3)).trans hx505_3
                  replace hx505_4 := (HB.out.cell (World.block_lt_of_cell? w _ hx505_4)).trans hx505_4
                  have HR505_1 := Aside0.mk hi505_1
                  have HC505_1 := Aside0.mk hl505_1
                  clear hi505_1 hl505_1
                  replace p505 := eq_true p505
                  replace q505 := eq_true q505
                  refine start_ (n := 12) (S := fun w' => w'.cell? ⟨gb493, 0, none⟩ = some (.string a2_0) ∧ w'.cell? ⟨gb493, 1, none⟩ = some (.int .i64 a2_1) ∧ w'.cell? ⟨gb493, 2, none⟩ = some (.int .i64 a2_2) ∧ w'.cell? (ad500.add ((x9_3).toNat * 5)) = some (.string ((rd_T47 l1 x9_3).f0)) ∧ w'.cell? ⟨(ad500.add ((x9_3).toNat * 5)).block, (ad500.add ((x9_3).toNat * 5)).off + 1, none⟩ = some (.slice A505_1 ((rd_T47 l1 x9_3).f1).length c505_1) ∧ w'.cell? ⟨(ad500.add ((x9_3).toNat * 5)).block, (ad500.add ((x9_3).toNat * 5)).off + 2, none⟩ = some (.int .i64 ((rd_T47 l1 x9_3).f2)) ∧ w'.cell? ⟨(ad500.add ((x9_3).toNat * 5)).block, (ad500.add ((x9_3).toNat * 5)).off + 3, none⟩ = some (.int .i64 ((rd_T47 l1 x9_3).f3)) ∧ w'.cell? ⟨(ad500.add ((x9_3).toNat * 5)).block, (ad500.add ((x9_3).toNat * 5)).off + 4, none⟩ = some (.int .i64 ((rd_T47 l1 x9_3).f4))) (ds := []) #[false, false, false, false, false, false, false, false, false, false, false, false] (by kernel_rfl) rfl rfl ⟨(blk_cell BK493.out 0).trans rfl, (blk_cell BK493.out 1).trans rfl, (blk_cell BK493.out 2).trans rfl, ((HB.out.cell (World.block_lt_of_cell? w _ hw505_0)).trans hw505_0), ((HB.out.cell (World.block_lt_of_cell? w _ hw505_1)).trans hw505_1), ((HB.out.cell (World.block_lt_of_cell? w _ hw505_2)).trans hw505_2), ((HB.out.cell (World.block_lt_of_cell? w _ hw505_3)).trans hw505_3), ((HB.out.cell (World.block_lt_of_cell? w _ hw505_4)).trans hw505_4)⟩ (fun hHeld => ?_); refine with_tabW gangsawlaw49_MachineLonger.tab15 gangsawlaw49_MachineLonger.bits15 (fun HT_ HW_ => ?_)
                  generalize w40.drew = w41 at BK493 BK501 HB HR505_1 hx505_0 hx505_1 hx505_2 hx505_3 hx505_4 hHeld ⊢
                  refine pure_ (i := 1) (N := some 62) (v := ?_) (a' := ?_) #[false, true, false, false, false, false, false, false, false, false, false, false] rfl rfl (any_of HT_.out (by kernel_rfl)) (fun _ _ _ h => h) (Or.inl ⟨by rfl, ?_⟩) ?_ ?_
                  rotate_left
                  ·intro w'
                   go_simp
                   with_reducible rfl
                  rotate_left
                  ·simp only [Act.put, List.setIfInBounds_toArray, List.set_cons_zero, List.set_cons_succ, i64_w, i32_w]
                   rfl
                  refine pure_ (i := 2) (N := some 63) (v := ?_) (a' := ?_) #[false, true, true, false, false, false, false, false, false, false, false, false] rfl rfl (any_of HT_.out (by kernel_rfl)) (fun _ _ _ h => h) (Or.inl ⟨by rfl, ?_⟩) ?_ ?_
                  rotate_left
                  ·intro w'
                   go_simp
                   with_reducible rfl
                  rotate_left
                  ·simp only [Act.put, List.setIfInBounds_toArray, List.set_cons_zero, List.set_cons_succ, i64_w, i32_w]
                   rfl
                  refine pure_ (i := 3) (N := some 64) (v := ?_) (a' := ?_) #[false, true, true, true, false, false, false, false, false, false, false, false] rfl rfl (any_of HT_.out (by kernel_rfl)) (fun _ _ _ h => h) (Or.inl ⟨by rfl, ?_⟩) ?_ ?_
                  rotate_left
                  ·intro w'
                   go_simp
                   with_reducible rfl
                  rotate_left
                  ·simp only [Act.put, List.setIfInBounds_toArray, List.set_cons_zero, List.set_cons_succ, i64_w, i32_w]
                   rfl
                  refine pure_ (i := 4) (N := some 65) (v := ?_) (a' := ?_) #[false, true, true, true, true, false, false, false, false, false, false, false] rfl rfl (any_of HT_.out (by kernel_rfl)) (fun _ _ _ h => h) (Or.inl ⟨by rfl, ?_⟩) ?_ ?_
                  rotate_left
                  ·intro w'
                   go_simp
                   with_reducible rfl
                  rotate_left
                  ·simp only [Act.put, List.setIfInBounds_toArray, List.set_cons_zero, List.set_cons_succ, i64_w, i32_w]
                   rfl
                  refine take_ (i := 5) (N := some 66) (v := ?_) (a' := ?_) #[false, true, true, true, true, true, false, false, false, false, false, false] rfl rfl (take_ofW HT_.out HW_.out (by kernel_rfl)) (fun _ _ _ h => h) (Or.inl ⟨by rfl, ?_⟩) hHeld ?_ ?_
                  rotate_left
                  ·rintro w' ⟨s0, s1, s2, s3, s4, s5, s6, s7⟩
                   go_simp
                   with_reducible rfl
                  rotate_left
                  ·simp only [Act.put, List.setIfInBounds_toArray, List.set_cons_zero, List.set_cons_succ, i64_w, i32_w]
                   rfl
                  refine take_ (i := 7) (N := some 68) (v := ?_) (a' := ?_) #[false, true, true, true, true, true, false, true, false, false, false, false] rfl rfl (take_ofW HT_.out HW_.out (by kernel_rfl)) (fun _ _ _ h => h) (Or.inl ⟨by rfl, ?_⟩) hHeld ?_ ?_
                  rotate_left
                  ·rintro w' ⟨s0, s1, s2, s3, s4, s5, s6, s7⟩
                   go_simp
                   with_reducible rfl
                  rotate_left
                  ·simp only [Act.put, List.setIfInBounds_toArray, List.set_cons_zero, List.set_cons_succ, i64_w, i32_w]
                   rfl
                  refine join_ (σ := Value × Value × Value) 3 #[true, true, true, true, true, true, true, true, true, false, false, false] (fun s_ => [(61, s_.1), (67, s_.2.1), (69, s_.2.2)]) (fun s_ w' => (w'.cell? ⟨gb493, 0, none⟩ = some (.string a2_0) ∧ w'.cell? ⟨gb493, 1, none⟩ = some (.int .i64 a2_1) ∧ w'.cell? ⟨gb493, 2, none⟩ = some (.int .i64 a2_2) ∧ w'.cell? (ad500.add ((x9_3).toNat * 5)) = some (.string ((rd_T47 l1 x9_3).f0)) ∧ w'.cell? ⟨(ad500.add ((x9_3).toNat * 5)).block, (ad500.add ((x9_3).toNat * 5)).off + 1, none⟩ = some (.slice A505_1 ((rd_T47 l1 x9_3).f1).length c505_1) ∧ w'.cell? ⟨(ad500.add ((x9_3).toNat * 5)).block, (ad500.add ((x9_3).toNat * 5)).off + 2, none⟩ = some (.int .i64 ((rd_T47 l1 x9_3).f2)) ∧ w'.cell? ⟨(ad500.add ((x9_3).toNat * 5)).block, (ad500.add ((x9_3).toNat * 5)).off + 3, none⟩ = some (.int .i64 ((rd_T47 l1 x9_3).f3)) ∧ w'.cell? ⟨(ad500.add ((x9_3).toNat * 5)).block, (ad500.add ((x9_3).toNat * 5)).off + 4, none⟩ = some (.int .i64 ((rd_T47 l1 x9_3).f4))) ∧ (Kd.R k36 36 w' w.heap.size (fun k_ => some k_ ≠ (s_.2.2 : Value).ownBlock ∧ k_ ≠ gb493) s_.2.1 y506) ∧ (Kd.R k36 36 w' w.heap.size (fun k_ => some k_ ≠ (s_.2.1 : Value).ownBlock ∧ k_ ≠ gb493) s_.2.2 y509) ∧ (w'.heap[gb493]? = some (.cells #[.string a2_0, .int .i64 a2_1, .int .i64 a2_2] 36 (0, 0))) ∧ (w'.heap[gb501]? = some (.cells #[.string ((rd_T47 l1 x9_3).f0), .slice A500_1 ((rd_T47 l1 x9_3).f1).length c500_1, .int .i64 ((rd_T47 l1 x9_3).f2), .int .i64 ((rd_T47 l1 x9_3).f3), .int .i64 ((rd_T47 l1 x9_3).f4)] 47 (0, 0))) ∧ (Below w.heap.size w w')) ?_ ?_
                  rotate_left
                  ·intro hCont
                   refine two_ (i := 0) (j := 8) (Ni := some 61) (Nj := some 69) #[true, true, true, true, true, true, false, true, false, false, false, false] #[false, true, true, true, true, true, false, true, true, false, false, false] rfl rfl rfl rfl (two_of HT_.out (by kernel_rfl)) (by decide) (by decide) (fun K hK => ?_) (fun K hK => ?_)
                   ·skip
                    refine Kd.R_lit_step k36 _ 36 ?hg (N := 61) ?hd (xs := ([] : List (S36))) (inner := []) (ok := fun _ => True) (okp := fun _ => True) ?hr ?hp (fun _ hk => hk) trivial (Below.refl _ _) (Nat.le_refl _) (by simp) ?_; (case hd => rfl); (case hg => rfl); (case hr => first | (go_simp; done) | (go_simp; rfl)); (case hp => exact (Reps.none _ _))
                    intro v503 w42 ho43 hb hg_ hnew_
                    clear hg_ hnew_
                    (first | rw [← Ny502.out] at ho43 | (simp only [Int.reduceToNat] at ho43; rw [← Ny502.out] at ho43))
                    have n0_ := Aside0.mk (Kd.R_lower (Kd.R_newB ho43 (g := gb493) (o := .cells #[.string a2_0, .int .i64 a2_1, .int .i64 a2_2] 36 (0, 0)) (by (with_reducible repeat (first | refine blk_drewN ?_ _ | refine blk_drew ?_ | refine blk_alloc ?_ _)); exact BK493.out)) (below_size (by repeat (first | (with_reducible first | exact HB.out | apply below_alloc | apply pw_below_drewN | apply below_drew1 | refine below_set ?_ GE493.out | refine below_set ?_ GE501.out) | exact HB.out))))
                    have n1_ := Aside0.mk (blk_below (g := gb493) (o := .cells #[.string a2_0, .int .i64 a2_1, .int .i64 a2_2] 36 (0, 0)) (by (with_reducible repeat (first | refine blk_drewN ?_ _ | refine blk_drew ?_ | refine blk_alloc ?_ _)); exact BK493.out) hb)
                    have n2_ := Aside0.mk (blk_below (g := gb501) (o := .cells #[.string ((rd_T47 l1 x9_3).f0), .slice A500_1 ((rd_T47 l1 x9_3).f1).length c500_1, .int .i64 ((rd_T47 l1 x9_3).f2), .int .i64 ((rd_T47 l1 x9_3).f3), .int .i64 ((rd_T47 l1 x9_3).f4)] 47 (0, 0)) (by (with_reducible repeat (first | refine blk_drewN ?_ _ | refine blk_drew ?_ | refine blk_alloc ?_ _)); exact BK501.out) hb)
                    have n3_ := Aside0.mk (below_step (by repeat (first | (with_reducible first | exact HB.out | apply below_alloc | apply pw_below_drewN | apply below_drew1 | refine below_set ?_ GE493.out | refine below_set ?_ GE501.out) | exact HB.out)) hb)
                    clear BK493
                    clear BK501
                    clear HB
                    have HO504 := n0_
                    have BK493 := n1_
                    have BK501 := n2_
                    have HB := n3_
                    clear n0_ n1_ n2_ n3_
                    clear hb ho43
                    refine hK.out _ _ ⟨(blk_cell BK493.out 0).trans rfl, (blk_cell BK493.out 1).trans rfl, (blk_cell BK493.out 2).trans rfl, ((HB.out.cell (World.block_lt_of_cell? w _ hw505_0)).trans hw505_0), ((HB.out.cell (World.block_lt_of_cell? w _ hw505_1)).trans hw505_1), ((HB.out.cell (World.block_lt_of_cell? w _ hw505_2)).trans hw505_2), ((HB.out.cell (World.block_lt_of_cell? w _ hw505_3)).trans hw505_3), ((HB.out.cell (World.block_lt_of_cell? w _ hw505_4)).trans hw505_4)⟩ (fun hHeld => ?_)
                    clear hK K
                    refine norm_ (a' := ?_) ?_ ?_
                    rotate_left
                    ·show Act.put _ (some 61) _ = _
                     simp only [Act.put, List.setIfInBounds_toArray, List.set_cons_zero, List.set_cons_succ, i64_w, i32_w]
                     rfl
                    refine two_ (i := 6) (j := 8) (Ni := some 67) (Nj := some 69) #[true, true, true, true, true, true, true, true, false, false, false, false] #[true, true, true, true, true, true, false, true, true, false, false, false] rfl rfl rfl rfl (two_of HT_.out (by kernel_rfl)) (by decide) (by decide) (fun K hK => ?_) (fun K hK => ?_)
                    ·skip
                     refine Kd.R_append_rows_step k36 (w0 := w) w.heap.size (by rfl) (.tmp 61) (.tmp 66) 45 36 (.agg #[(.string ⟨#[]⟩), (.int .i64 0), (.int .i64 0)]) 32 rfl Try.underlying45 info36 rfl (by decide) (by omega) v503 y502 ((rd_T47 l1 x9_3).f1) _ _ _ (fun k_ => k_ ≠ gb493) (fun _ => False) rfl rfl ?aO ?aR (fun _ _ h => h) (fun _ h => h.elim) ?aF ?aB ?aS ?aL ?_
                     (case aR => repeat (first | exact (Kd.C_below HR505_1.out HB.out) | (with_reducible refine Kd.C_alloc ?_ _) | (with_reducible refine Kd.C_drewN ?_ _) | (with_reducible refine Kd.C_drew ?_)))
                     (case aB => exact (by repeat (first | (with_reducible first | exact HB.out | apply below_alloc | apply pw_below_drewN | apply below_drew1 | refine below_set ?_ GE493.out | refine below_set ?_ GE501.out) | exact HB.out)))
                     (case aF => exact (fun k_ hk => Kd.freshB (g := gb493) (o := .cells #[.string a2_0, .int .i64 a2_1, .int .i64 a2_2] 36 (0, 0)) (by (with_reducible repeat (first | refine blk_drewN ?_ _ | refine blk_drew ?_ | refine blk_alloc ?_ _)); exact BK493.out) k_ hk))
                     (case aO => exact (by (with_reducible repeat (first | apply Kd.R_alloc | apply Kd.R_drewN | apply Kd.R_drew)); exact Kd.R_mono HO504.out (fun _ hk => hk.2)))
                     (case aS => exact (below_size (by repeat (first | (with_reducible first | exact HB.out | apply below_alloc | apply pw_below_drewN | apply below_drew1 | refine below_set ?_ GE493.out | refine below_set ?_ GE501.out) | exact HB.out))))
                     (case aL => have := LMc30.out; omega)
                     intro v507 w44 ho hb hg hat
                     rw [← Ny506.out] at ho
                     have n0_ := Aside0.mk (blk_grown (g := gb493) (o := .cells #[.string a2_0, .int .i64 a2_1, .int .i64 a2_2] 36 (0, 0)) (by (with_reducible repeat (first | refine blk_drewN ?_ _ | refine blk_drew ?_ | refine blk_alloc ?_ _)); exact BK493.out) hg (Kd.R_away HO504.out (fun _ hk => hk.2)))
                     have n1_ := Aside0.mk (blk_grown (g := gb501) (o := .cells #[.string ((rd_T47 l1 x9_3).f0), .slice A500_1 ((rd_T47 l1 x9_3).f1).length c500_1, .int .i64 ((rd_T47 l1 x9_3).f2), .int .i64 ((rd_T47 l1 x9_3).f3), .int .i64 ((rd_T47 l1 x9_3).f4)] 47 (0, 0)) (by (with_reducible repeat (first | refine blk_drewN ?_ _ | refine blk_drew ?_ | refine blk_alloc ?_ _)); exact BK501.out) hg (Kd.R_ne HO504.out BK501.out (by decide)))
                     have n2_ := Aside0.mk (hb)
                     have n3_ := Aside0.mk (ho)
                     clear BK493
                     clear BK501
                     clear HB
                     clear HO504
                     have BK493 := n0_
                     have BK501 := n1_
                     have HB := n2_
                     have HO508 := n3_
                     clear n0_ n1_ n2_ n3_
                     clear ho hb hg hat
                     refine hK.out _ _ ⟨(blk_cell BK493.out 0).trans rfl, (blk_cell BK493.out 1).trans rfl, (blk_cell BK493.out 2).trans rfl, ((HB.out.cell (World.block_lt_of_cell? w _ hw505_0)).trans hw505_0), ((HB.out.cell (World.block_lt_of_cell? w _ hw505_1)).trans hw505_1), ((HB.out.cell (World.block_lt_of_cell? w _ hw505_2)).trans hw505_2), ((HB.out.cell (World.block_lt_of_cell? w _ hw505_3)).trans hw505_3), ((HB.out.cell (World.block_lt_of_cell? w _ hw505_4)).trans hw505_4)⟩ (fun hHeld => ?_)
                     clear hK K
                     refine norm_ (a' := ?_) ?_ ?_
                     rotate_left
                     ·show Act.put _ (some 67) _ = _
                      simp only [Act.put, List.setIfInBounds_toArray, List.set_cons_zero, List.set_cons_succ, i64_w, i32_w]
                      rfl
                     refine one_ (i := 8) (N := some 69) #[true, true, true, true, true, true, true, true, true, false, false, false] rfl rfl (one_of HT_.out (by kernel_rfl)) (by decide) (fun K hK => ?_)
                     refine Kd.R_lit_step k36 _ 36 ?hg (N := 69) ?hd (xs := ([(⟨a2_0, a2_1, a2_2⟩ : S36)] : List (S36))) (inner := [.string a2_0, .int .i64 a2_1, .int .i64 a2_2]) (ok := fun _ => True) (okp := fun _ => True) ?hr ?hp (fun _ hk => hk) trivial (Below.refl _ _) (Nat.le_refl _) (by simp) ?_; (case hd => rfl); (case hg => rfl); (case hr => first | (go_simp; done) | (go_simp; rfl)); (case hp => exact (Reps.c3 (show Kd.M k36 _ _ _ (⟨a2_0, a2_1, a2_2⟩ : S36) [.string a2_0, .int .i64 a2_1, .int .i64 a2_2] from (k36_mkM _ _ _ (⟨a2_0, a2_1, a2_2⟩ : S36) )) (Reps.none _ _)))
                     intro v510 w45 ho46 hb hg_ hnew_
                     clear hg_ hnew_
                     (first | rw [← Ny509.out] at ho46 | (simp only [Int.reduceToNat] at ho46; rw [← Ny509.out] at ho46))
                     have n0_ := Aside0.mk (Kd.R_elder' (by (with_reducible repeat (first | apply Kd.R_alloc | apply Kd.R_drewN | apply Kd.R_drew)); exact HO508.out) (Kd.R_base ho46) hb)
                     have n1_ := Aside0.mk (Kd.R_lower (Kd.R_newB (Kd.R_new' ho46 (Kd.R_lt (by (with_reducible repeat (first | apply Kd.R_alloc | apply Kd.R_drewN | apply Kd.R_drew)); exact HO508.out))) (g := gb493) (o := .cells #[.string a2_0, .int .i64 a2_1, .int .i64 a2_2] 36 (0, 0)) (by (with_reducible repeat (first | refine blk_drewN ?_ _ | refine blk_drew ?_ | refine blk_alloc ?_ _)); exact BK493.out)) (below_size (by repeat (first | (with_reducible first | exact HB.out | apply below_alloc | apply pw_below_drewN | apply below_drew1 | refine below_set ?_ GE493.out | refine below_set ?_ GE501.out) | exact HB.out))))
                     have n2_ := Aside0.mk (blk_below (g := gb493) (o := .cells #[.string a2_0, .int .i64 a2_1, .int .i64 a2_2] 36 (0, 0)) (by (with_reducible repeat (first | refine blk_drewN ?_ _ | refine blk_drew ?_ | refine blk_alloc ?_ _)); exact BK493.out) hb)
                     have n3_ := Aside0.mk (blk_below (g := gb501) (o := .cells #[.string ((rd_T47 l1 x9_3).f0), .slice A500_1 ((rd_T47 l1 x9_3).f1).length c500_1, .int .i64 ((rd_T47 l1 x9_3).f2), .int .i64 ((rd_T47 l1 x9_3).f3), .int .i64 ((rd_T47 l1 x9_3).f4)] 47 (0, 0)) (by (with_reducible repeat (first | refine blk_drewN ?_ _ | refine blk_drew ?_ | refine blk_alloc ?_ _)); exact BK501.out) hb)
                     have n4_ := Aside0.mk (below_step (by repeat (first | (with_reducible first | exact HB.out | apply below_alloc | apply pw_below_drewN | apply below_drew1 | refine below_set ?_ GE493.out | refine below_set ?_ GE501.out) | exact HB.out)) hb)
                     clear HO508
                     clear BK493
                     clear BK501
                     clear HB
                     have HO508 := n0_
                     have HO511 := n1_
                     have BK493 := n2_
                     have BK501 := n3_
                     have HB := n4_
                     clear n0_ n1_ n2_ n3_ n4_
                     clear hb ho46
                     refine hK.out _ _ ⟨(blk_cell BK493.out 0).trans rfl, (blk_cell BK493.out 1).trans rfl, (blk_cell BK493.out 2).trans rfl, ((HB.out.cell (World.block_lt_of_cell? w _ hw505_0)).trans hw505_0), ((HB.out.cell (World.block_lt_of_cell? w _ hw505_1)).trans hw505_1), ((HB.out.cell (World.block_lt_of_cell? w _ hw505_2)).trans hw505_2), ((HB.out.cell (World.block_lt_of_cell? w _ hw505_3)).trans hw505_3), ((HB.out.cell (World.block_lt_of_cell? w _ hw505_4)).trans hw505_4)⟩ (fun hHeld => ?_)
                     clear hK K
                     refine norm_ (a' := ?_) ?_ ?_
                     rotate_left
                     ·show Act.put _ (some 69) _ = _
                      simp only [Act.put, List.setIfInBounds_toArray, List.set_cons_zero, List.set_cons_succ, i64_w, i32_w]
                      rfl
                     exact norm_ (by simp only [putAll, Act.put, List.setIfInBounds_toArray, List.set_cons_zero, List.set_cons_succ]) (hCont (v503, v507, v510) _ ⟨hHeld, (by (with_reducible repeat (first | apply Kd.R_alloc | apply Kd.R_drewN | apply Kd.R_drew)); exact Kd.R_mono HO508.out (fun _ hk => ⟨hk.2, hk.1⟩)), (by (with_reducible repeat (first | apply Kd.R_alloc | apply Kd.R_drewN | apply Kd.R_drew)); exact Kd.R_mono HO511.out (fun _ hk => ⟨hk.1.2, hk.2⟩)), (by (with_reducible repeat (first | refine blk_drewN ?_ _ | refine blk_drew ?_ | refine blk_alloc ?_ _)); exact BK493.out), (by (with_reducible repeat (first | refine blk_drewN ?_ _ | refine blk_drew ?_ | refine blk_alloc ?_ _)); exact BK501.out), (by repeat (first | (with_reducible first | exact HB.out | apply below_alloc | apply pw_below_drewN | apply below_drew1 | refine below_set ?_ GE493.out | refine below_set ?_ GE501.out) | exact HB.out))⟩)
                    ·skip
                     refine Kd.R_lit_step k36 _ 36 ?hg (N := 69) ?hd (xs := ([(⟨a2_0, a2_1, a2_2⟩ : S36)] : List (S36))) (inner := [.string a2_0, .int .i64 a2_1, .int .i64 a2_2]) (ok := fun _ => True) (okp := fun _ => True) ?hr ?hp (fun _ hk => hk) trivial (Below.refl _ _) (Nat.le_refl _) (by simp) ?_; (case hd => rfl); (case hg => rfl); (case hr => first | (go_simp; done) | (go_simp; rfl)); (case hp => exact (Reps.c3 (show Kd.M k36 _ _ _ (⟨a2_0, a2_1, a2_2⟩ : S36) [.string a2_0, .int .i64 a2_1, .int .i64 a2_2] from (k36_mkM _ _ _ (⟨a2_0, a2_1, a2_2⟩ : S36) )) (Reps.none _ _)))
                     intro v510 w44 ho45 hb hg_ hnew_
                     clear hg_ hnew_
                     (first | rw [← Ny509.out] at ho45 | (simp only [Int.reduceToNat] at ho45; rw [← Ny509.out] at ho45))
                     have n0_ := Aside0.mk (Kd.R_elder' (by (with_reducible repeat (first | apply Kd.R_alloc | apply Kd.R_drewN | apply Kd.R_drew)); exact HO504.out) (Kd.R_base ho45) hb)
                     have n1_ := Aside0.mk (Kd.R_lower (Kd.R_newB (Kd.R_new' ho45 (Kd.R_lt (by (with_reducible repeat (first | apply Kd.R_alloc | apply Kd.R_drewN | apply Kd.R_drew)); exact HO504.out))) (g := gb493) (o := .cells #[.string a2_0, .int .i64 a2_1, .int .i64 a2_2] 36 (0, 0)) (by (with_reducible repeat (first | refine blk_drewN ?_ _ | refine blk_drew ?_ | refine blk_alloc ?_ _)); exact BK493.out)) (below_size (by repeat (first | (with_reducible first | exact HB.out | apply below_alloc | apply pw_below_drewN | apply below_drew1 | refine below_set ?_ GE493.out | refine below_set ?_ GE501.out) | exact HB.out))))
                     have n2_ := Aside0.mk (blk_below (g := gb493) (o := .cells #[.string a2_0, .int .i64 a2_1, .int .i64 a2_2] 36 (0, 0)) (by (with_reducible repeat (first | refine blk_drewN ?_ _ | refine blk_drew ?_ | refine blk_alloc ?_ _)); exact BK493.out) hb)
                     have n3_ := Aside0.mk (blk_below (g := gb501) (o := .cells #[.string ((rd_T47 l1 x9_3).f0), .slice A500_1 ((rd_T47 l1 x9_3).f1).length c500_1, .int .i64 ((rd_T47 l1 x9_3).f2), .int .i64 ((rd_T47 l1 x9_3).f3), .int .i64 ((rd_T47 l1 x9_3).f4)] 47 (0, 0)) (by (with_reducible repeat (first | refine blk_drewN ?_ _ | refine blk_drew ?_ | refine blk_alloc ?_ _)); exact BK501.out) hb)
                     have n4_ := Aside0.mk (below_step (by repeat (first | (with_reducible first | exact HB.out | apply below_alloc | apply pw_below_drewN | apply below_drew1 | refine below_set ?_ GE493.out | refine below_set ?_ GE501.out) | exact HB.out)) hb)
                     clear HO504
                     clear BK493
                     clear BK501
                     clear HB
                     have HO504 := n0_
                     have HO511 := n1_
                     have BK493 := n2_
                     have BK501 := n3_
                     have HB := n4_
                     clear n0_ n1_ n2_ n3_ n4_
                     clear hb ho45
                     refine hK.out _ _ ⟨(blk_cell BK493.out 0).trans rfl, (blk_cell BK493.out 1).trans rfl, (blk_cell BK493.out 2).trans rfl, ((HB.out.cell (World.block_lt_of_cell? w _ hw505_0)).trans hw505_0), ((HB.out.cell (World.block_lt_of_cell? w _ hw505_1)).trans hw505_1), ((HB.out.cell (World.block_lt_of_cell? w _ hw505_2)).trans hw505_2), ((HB.out.cell (World.block_lt_of_cell? w _ hw505_3)).trans hw505_3), ((HB.out.cell (World.block_lt_of_cell? w _ hw505_4)).trans hw505_4)⟩ (fun hHeld => ?_)
                     clear hK K
                     refine norm_ (a' := ?_) ?_ ?_
                     rotate_left
                     ·show Act.put _ (some 69) _ = _
                      simp only [Act.put, List.setIfInBounds_toArray, List.set_cons_zero, List.set_cons_succ, i64_w, i32_w]
                      rfl
                     refine one_ (i := 6) (N := some 67) #[true, true, true, true, true, true, true, true, true, false, false, false] rfl rfl (one_of HT_.out (by kernel_rfl)) (by decide) (fun K hK => ?_)
                     refine Kd.R_append_rows_step k36 (w0 := w) w.heap.size (by rfl) (.tmp 61) (.tmp 66) 45 36 (.agg #[(.string ⟨#[]⟩), (.int .i64 0), (.int .i64 0)]) 32 rfl Try.underlying45 info36 rfl (by decide) (by omega) v503 y502 ((rd_T47 l1 x9_3).f1) _ _ _ (fun k_ => some k_ ≠ (v510 : Value).ownBlock ∧ k_ ≠ gb493) (fun _ => False) rfl rfl ?aO ?aR (fun _ _ h => h) (fun _ h => h.elim) ?aF ?aB ?aS ?aL ?_
                     (case aR => repeat (first | exact (Kd.C_below HR505_1.out HB.out) | (with_reducible refine Kd.C_alloc ?_ _) | (with_reducible refine Kd.C_drewN ?_ _) | (with_reducible refine Kd.C_drew ?_)))
                     (case aB => exact (by repeat (first | (with_reducible first | exact HB.out | apply below_alloc | apply pw_below_drewN | apply below_drew1 | refine below_set ?_ GE493.out | refine below_set ?_ GE501.out) | exact HB.out)))
                     (case aF => exact (fun k_ hk => ⟨Kd.fresh' (Kd.R_lt (by (with_reducible repeat (first | apply Kd.R_alloc | apply Kd.R_drewN | apply Kd.R_drew)); exact HO511.out)) k_ hk, Kd.freshB (g := gb493) (o := .cells #[.string a2_0, .int .i64 a2_1, .int .i64 a2_2] 36 (0, 0)) (by (with_reducible repeat (first | refine blk_drewN ?_ _ | refine blk_drew ?_ | refine blk_alloc ?_ _)); exact BK493.out) k_ hk⟩))
                     (case aO => exact (by (with_reducible repeat (first | apply Kd.R_alloc | apply Kd.R_drewN | apply Kd.R_drew)); exact Kd.R_mono HO504.out (fun _ hk => ⟨hk.2, hk.1.2⟩)))
                     (case aS => exact (below_size (by repeat (first | (with_reducible first | exact HB.out | apply below_alloc | apply pw_below_drewN | apply below_drew1 | refine below_set ?_ GE493.out | refine below_set ?_ GE501.out) | exact HB.out))))
                     (case aL => have := LMc30.out; omega)
                     intro v507 w46 ho hb hg hat
                     rw [← Ny506.out] at ho
                     have n0_ := Aside0.mk (blk_grown (g := gb493) (o := .cells #[.string a2_0, .int .i64 a2_1, .int .i64 a2_2] 36 (0, 0)) (by (with_reducible repeat (first | refine blk_drewN ?_ _ | refine blk_drew ?_ | refine blk_alloc ?_ _)); exact BK493.out) hg (Kd.R_away HO504.out (fun _ hk => hk.1.2)))
                     have n1_ := Aside0.mk (blk_grown (g := gb501) (o := .cells #[.string ((rd_T47 l1 x9_3).f0), .slice A500_1 ((rd_T47 l1 x9_3).f1).length c500_1, .int .i64 ((rd_T47 l1 x9_3).f2), .int .i64 ((rd_T47 l1 x9_3).f3), .int .i64 ((rd_T47 l1 x9_3).f4)] 47 (0, 0)) (by (with_reducible repeat (first | refine blk_drewN ?_ _ | refine blk_drew ?_ | refine blk_alloc ?_ _)); exact BK501.out) hg (Kd.R_ne HO504.out BK501.out (by decide)))
                     have n2_ := Aside0.mk (Kd.R_after (ok := (fun k_ => k_ ≠ gb493)) (by (with_reducible repeat (first | apply Kd.R_alloc | apply Kd.R_drewN | apply Kd.R_drew)); exact Kd.R_mono HO511.out (fun _ hk => ⟨hk.2, hk.1.2⟩)) hg hat)
                     have n3_ := Aside0.mk (hb)
                     have n4_ := Aside0.mk (ho)
                     clear BK493
                     clear BK501
                     clear HO511
                     clear HB
                     clear HO504
                     have BK493 := n0_
                     have BK501 := n1_
                     have HO511 := n2_
                     have HB := n3_
                     have HO508 := n4_
                     clear n0_ n1_ n2_ n3_ n4_
                     clear ho hb hg hat
                     refine hK.out _ _ ⟨(blk_cell BK493.out 0).trans rfl, (blk_cell BK493.out 1).trans rfl, (blk_cell BK493.out 2).trans rfl, ((HB.out.cell (World.block_lt_of_cell? w _ hw505_0)).trans hw505_0), ((HB.out.cell (World.block_lt_of_cell? w _ hw505_1)).trans hw505_1), ((HB.out.cell (World.block_lt_of_cell? w _ hw505_2)).trans hw505_2), ((HB.out.cell (World.block_lt_of_cell? w _ hw505_3)).trans hw505_3), ((HB.out.cell (World.block_lt_of_cell? w _ hw505_4)).trans hw505_4)⟩ (fun hHeld => ?_)
                     clear hK K
                     refine norm_ (a' := ?_) ?_ ?_
                     rotate_left
                     ·show Act.put _ (some 67) _ = _
                      simp only [Act.put, List.setIfInBounds_toArray, List.set_cons_zero, List.set_cons_succ, i64_w, i32_w]
                      rfl
                     exact norm_ (by simp only [putAll, Act.put, List.setIfInBounds_toArray, List.set_cons_zero, List.set_cons_succ]) (hCont (v503, v507, v510) _ ⟨hHeld, (by (with_reducible repeat (first | apply Kd.R_alloc | apply Kd.R_drewN | apply Kd.R_drew)); exact HO508.out), (by (with_reducible repeat (first | apply Kd.R_alloc | apply Kd.R_drewN | apply Kd.R_drew)); exact Kd.R_mono HO511.out (fun _ hk => ⟨hk.2, hk.1⟩)), (by (with_reducible repeat (first | refine blk_drewN ?_ _ | refine blk_drew ?_ | refine blk_alloc ?_ _)); exact BK493.out), (by (with_reducible repeat (first | refine blk_drewN ?_ _ | refine blk_drew ?_ | refine blk_alloc ?_ _)); exact BK501.out), (by repeat (first | (with_reducible first | exact HB.out | apply below_alloc | apply pw_below_drewN | apply below_drew1 | refine below_set ?_ GE493.out | refine below_set ?_ GE501.out) | exact HB.out))⟩)
                   ·skip
                    refine Kd.R_lit_step k36 _ 36 ?hg (N := 69) ?hd (xs := ([(⟨a2_0, a2_1, a2_2⟩ : S36)] : List (S36))) (inner := [.string a2_0, .int .i64 a2_1, .int .i64 a2_2]) (ok := fun _ => True) (okp := fun _ => True) ?hr ?hp (fun _ hk => hk) trivial (Below.refl _ _) (Nat.le_refl _) (by simp) ?_; (case hd => rfl); (case hg => rfl); (case hr => first | (go_simp; done) | (go_simp; rfl)); (case hp => exact (Reps.c3 (show Kd.M k36 _ _ _ (⟨a2_0, a2_1, a2_2⟩ : S36) [.string a2_0, .int .i64 a2_1, .int .i64 a2_2] from (k36_mkM _ _ _ (⟨a2_0, a2_1, a2_2⟩ : S36) )) (Reps.none _ _)))
                    intro v510 w42 ho43 hb hg_ hnew_
                    clear hg_ hnew_
                    (first | rw [← Ny509.out] at ho43 | (simp only [Int.reduceToNat] at ho43; rw [← Ny509.out] at ho43))
                    have n0_ := Aside0.mk (Kd.R_lower (Kd.R_newB ho43 (g := gb493) (o := .cells #[.string a2_0, .int .i64 a2_1, .int .i64 a2_2] 36 (0, 0)) (by (with_reducible repeat (first | refine blk_drewN ?_ _ | refine blk_drew ?_ | refine blk_alloc ?_ _)); exact BK493.out)) (below_size (by repeat (first | (with_reducible first | exact HB.out | apply below_alloc | apply pw_below_drewN | apply below_drew1 | refine below_set ?_ GE493.out | refine below_set ?_ GE501.out) | exact HB.out))))
                    have n1_ := Aside0.mk (blk_below (g := gb493) (o := .cells #[.string a2_0, .int .i64 a2_1, .int .i64 a2_2] 36 (0, 0)) (by (with_reducible repeat (first | refine blk_drewN ?_ _ | refine blk_drew ?_ | refine blk_alloc ?_ _)); exact BK493.out) hb)
                    have n2_ := Aside0.mk (blk_below (g := gb501) (o := .cells #[.string ((rd_T47 l1 x9_3).f0), .slice A500_1 ((rd_T47 l1 x9_3).f1).length c500_1, .int .i64 ((rd_T47 l1 x9_3).f2), .int .i64 ((rd_T47 l1 x9_3).f3), .int .i64 ((rd_T47 l1 x9_3).f4)] 47 (0, 0)) (by (with_reducible repeat (first | refine blk_drewN ?_ _ | refine blk_drew ?_ | refine blk_alloc ?_ _)); exact BK501.out) hb)
                    have n3_ := Aside0.mk (below_step (by repeat (first | (with_reducible first | exact HB.out | apply below_alloc | apply pw_below_drewN | apply below_drew1 | refine below_set ?_ GE493.out | refine below_set ?_ GE501.out) | exact HB.out)) hb)
                    clear BK493
                    clear BK501
                    clear HB
                    have HO511 := n0_
                    have BK493 := n1_
                    have BK501 := n2_
                    have HB := n3_
                    clear n0_ n1_ n2_ n3_
                    clear hb ho43
                    refine hK.out _ _ ⟨(blk_cell BK493.out 0).trans rfl, (blk_cell BK493.out 1).trans rfl, (blk_cell BK493.out 2).trans rfl, ((HB.out.cell (World.block_lt_of_cell? w _ hw505_0)).trans hw505_0), ((HB.out.cell (World.block_lt_of_cell? w _ hw505_1)).trans hw505_1), ((HB.out.cell (World.block_lt_of_cell? w _ hw505_2)).trans hw505_2), ((HB.out.cell (World.block_lt_of_cell? w _ hw505_3)).trans hw505_3), ((HB.out.cell (World.block_lt_of_cell? w _ hw505_4)).trans hw505_4)⟩ (fun hHeld => ?_)
                    clear hK K
                    refine norm_ (a' := ?_) ?_ ?_
                    rotate_left
                    ·show Act.put _ (some 69) _ = _
                     simp only [Act.put, List.setIfInBounds_toArray, List.set_cons_zero, List.set_cons_succ, i64_w, i32_w]
                     rfl
                    refine one_ (i := 0) (N := some 61) #[true, true, true, true, true, true, false, true, true, false, false, false] rfl rfl (one_of HT_.out (by kernel_rfl)) (by decide) (fun K hK => ?_)
                    refine Kd.R_lit_step k36 _ 36 ?hg (N := 61) ?hd (xs := ([] : List (S36))) (inner := []) (ok := fun _ => True) (okp := fun _ => True) ?hr ?hp (fun _ hk => hk) trivial (Below.refl _ _) (Nat.le_refl _) (by simp) ?_; (case hd => rfl); (case hg => rfl); (case hr => first | (go_simp; done) | (go_simp; rfl)); (case hp => exact (Reps.none _ _))
                    intro v503 w44 ho45 hb hg_ hnew_
                    clear hg_ hnew_
                    (first | rw [← Ny502.out] at ho45 | (simp only [Int.reduceToNat] at ho45; rw [← Ny502.out] at ho45))
                    have n0_ := Aside0.mk (Kd.R_elder' (by (with_reducible repeat (first | apply Kd.R_alloc | apply Kd.R_drewN | apply Kd.R_drew)); exact HO511.out) (Kd.R_base ho45) hb)
                    have n1_ := Aside0.mk (Kd.R_lower (Kd.R_newB (Kd.R_new' ho45 (Kd.R_lt (by (with_reducible repeat (first | apply Kd.R_alloc | apply Kd.R_drewN | apply Kd.R_drew)); exact HO511.out))) (g := gb493) (o := .cells #[.string a2_0, .int .i64 a2_1, .int .i64 a2_2] 36 (0, 0)) (by (with_reducible repeat (first | refine blk_drewN ?_ _ | refine blk_drew ?_ | refine blk_alloc ?_ _)); exact BK493.out)) (below_size (by repeat (first | (with_reducible first | exact HB.out | apply below_alloc | apply pw_below_drewN | apply below_drew1 | refine below_set ?_ GE493.out | refine below_set ?_ GE501.out) | exact HB.out))))
                    have n2_ := Aside0.mk (blk_below (g := gb493) (o := .cells #[.string a2_0, .int .i64 a2_1, .int .i64 a2_2] 36 (0, 0)) (by (with_reducible repeat (first | refine blk_drewN ?_ _ | refine blk_drew ?_ | refine blk_alloc ?_ _)); exact BK493.out) hb)
                    have n3_ := Aside0.mk (blk_below (g := gb501) (o := .cells #[.string ((rd_T47 l1 x9_3).f0), .slice A500_1 ((rd_T47 l1 x9_3).f1).length c500_1, .int .i64 ((rd_T47 l1 x9_3).f2), .int .i64 ((rd_T47 l1 x9_3).f3), .int .i64 ((rd_T47 l1 x9_3).f4)] 47 (0, 0)) (by (with_reducible repeat (first | refine blk_drewN ?_ _ | refine blk_drew ?_ | refine blk_alloc ?_ _)); exact BK501.out) hb)
                    have n4_ := Aside0.mk (below_step (by repeat (first | (with_reducible first | exact HB.out | apply below_alloc | apply pw_below_drewN | apply below_drew1 | refine below_set ?_ GE493.out | refine below_set ?_ GE501.out) | exact HB.out)) hb)
                    clear HO511
                    clear BK493
                    clear BK501
                    clear HB
                    have HO511 := n0_
                    have HO504 := n1_
                    have BK493 := n2_
                    have BK501 := n3_
                    have HB := n4_
                    clear n0_ n1_ n2_ n3_ n4_
                    clear hb ho45
                    refine hK.out _ _ ⟨(blk_cell BK493.out 0).trans rfl, (blk_cell BK493.out 1).trans rfl, (blk_cell BK493.out 2).trans rfl, ((HB.out.cell (World.block_lt_of_cell? w _ hw505_0)).trans hw505_0), ((HB.out.cell (World.block_lt_of_cell? w _ hw505_1)).trans hw505_1), ((HB.out.cell (World.block_lt_of_cell? w _ hw505_2)).trans hw505_2), ((HB.out.cell (World.block_lt_of_cell? w _ hw505_3)).trans hw505_3), ((HB.out.cell (World.block_lt_of_cell? w _ hw505_4)).trans hw505_4)⟩ (fun hHeld => ?_)
                    clear hK K
                    refine norm_ (a' := ?_) ?_ ?_
                    rotate_left
                    ·show Act.put _ (some 61) _ = _
                     simp only [Act.put, List.setIfInBounds_toArray, List.set_cons_zero, List.set_cons_succ, i64_w, i32_w]
                     rfl
                    refine one_ (i := 6) (N := some 67) #[true, true, true, true, true, true, true, true, true, false, false, false] rfl rfl (one_of HT_.out (by kernel_rfl)) (by decide) (fun K hK => ?_)
                    refine Kd.R_append_rows_step k36 (w0 := w) w.heap.size (by rfl) (.tmp 61) (.tmp 66) 45 36 (.agg #[(.string ⟨#[]⟩), (.int .i64 0), (.int .i64 0)]) 32 rfl Try.underlying45 info36 rfl (by decide) (by omega) v503 y502 ((rd_T47 l1 x9_3).f1) _ _ _ (fun k_ => some k_ ≠ (v510 : Value).ownBlock ∧ k_ ≠ gb493) (fun _ => False) rfl rfl ?aO ?aR (fun _ _ h => h) (fun _ h => h.elim) ?aF ?aB ?aS ?aL ?_
                    (case aR => repeat (first | exact (Kd.C_below HR505_1.out HB.out) | (with_reducible refine Kd.C_alloc ?_ _) | (with_reducible refine Kd.C_drewN ?_ _) | (with_reducible refine Kd.C_drew ?_)))
                    (case aB => exact (by repeat (first | (with_reducible first | exact HB.out | apply below_alloc | apply pw_below_drewN | apply below_drew1 | refine below_set ?_ GE493.out | refine below_set ?_ GE501.out) | exact HB.out)))
                    (case aF => exact (fun k_ hk => ⟨Kd.fresh' (Kd.R_lt (by (with_reducible repeat (first | apply Kd.R_alloc | apply Kd.R_drewN | apply Kd.R_drew)); exact HO511.out)) k_ hk, Kd.freshB (g := gb493) (o := .cells #[.string a2_0, .int .i64 a2_1, .int .i64 a2_2] 36 (0, 0)) (by (with_reducible repeat (first | refine blk_drewN ?_ _ | refine blk_drew ?_ | refine blk_alloc ?_ _)); exact BK493.out) k_ hk⟩))
                    (case aO => exact (by (with_reducible repeat (first | apply Kd.R_alloc | apply Kd.R_drewN | apply Kd.R_drew)); exact Kd.R_mono HO504.out (fun _ hk => ⟨hk.1.2, hk.2⟩)))
                    (case aS => exact (below_size (by repeat (first | (with_reducible first | exact HB.out | apply below_alloc | apply pw_below_drewN | apply below_drew1 | refine below_set ?_ GE493.out | refine below_set ?_ GE501.out) | exact HB.out))))
                    (case aL => have := LMc30.out; omega)
                    intro v507 w46 ho hb hg hat
                    rw [← Ny506.out] at ho
                    have n0_ := Aside0.mk (blk_grown (g := gb493) (o := .cells #[.string a2_0, .int .i64 a2_1, .int .i64 a2_2] 36 (0, 0)) (by (with_reducible repeat (first | refine blk_drewN ?_ _ | refine blk_drew ?_ | refine blk_alloc ?_ _)); exact BK493.out) hg (Kd.R_away HO504.out (fun _ hk => hk.2)))
                    have n1_ := Aside0.mk (blk_grown (g := gb501) (o := .cells #[.string ((rd_T47 l1 x9_3).f0), .slice A500_1 ((rd_T47 l1 x9_3).f1).length c500_1, .int .i64 ((rd_T47 l1 x9_3).f2), .int .i64 ((rd_T47 l1 x9_3).f3), .int .i64 ((rd_T47 l1 x9_3).f4)] 47 (0, 0)) (by (with_reducible repeat (first | refine blk_drewN ?_ _ | refine blk_drew ?_ | refine blk_alloc ?_ _)); exact BK501.out) hg (Kd.R_ne HO504.out BK501.out (by decide)))
                    have n2_ := Aside0.mk (Kd.R_after (ok := (fun k_ => k_ ≠ gb493)) (by (with_reducible repeat (first | apply Kd.R_alloc | apply Kd.R_drewN | apply Kd.R_drew)); exact Kd.R_mono HO511.out (fun _ hk => ⟨hk.1.2, hk.2⟩)) hg hat)
                    have n3_ := Aside0.mk (hb)
                    have n4_ := Aside0.mk (ho)
                    clear BK493
                    clear BK501
                    clear HO511
                    clear HB
                    clear HO504
                    have BK493 := n0_
                    have BK501 := n1_
                    have HO511 := n2_
                    have HB := n3_
                    have HO508 := n4_
                    clear n0_ n1_ n2_ n3_ n4_
                    clear ho hb hg hat
                    refine hK.out _ _ ⟨(blk_cell BK493.out 0).trans rfl, (blk_cell BK493.out 1).trans rfl, (blk_cell BK493.out 2).trans rfl, ((HB.out.cell (World.block_lt_of_cell? w _ hw505_0)).trans hw505_0), ((HB.out.cell (World.block_lt_of_cell? w _ hw505_1)).trans hw505_1), ((HB.out.cell (World.block_lt_of_cell? w _ hw505_2)).trans hw505_2), ((HB.out.cell (World.block_lt_of_cell? w _ hw505_3)).trans hw505_3), ((HB.out.cell (World.block_lt_of_cell? w _ hw505_4)).trans hw505_4)⟩ (fun hHeld => ?_)
                    clear hK K
                    refine norm_ (a' := ?_) ?_ ?_
                    rotate_left
                    ·show Act.put _ (some 67) _ = _
                     simp only [Act.put, List.setIfInBounds_toArray, List.set_cons_zero, List.set_cons_succ, i64_w, i32_w]
                     rfl
                    exact norm_ (by simp only [putAll, Act.put, List.setIfInBounds_toArray, List.set_cons_zero, List.set_cons_succ]) (hCont (v503, v507, v510) _ ⟨hHeld, (by (with_reducible repeat (first | apply Kd.R_alloc | apply Kd.R_drewN | apply Kd.R_drew)); exact HO508.out), (by (with_reducible repeat (first | apply Kd.R_alloc | apply Kd.R_drewN | apply Kd.R_drew)); exact Kd.R_mono HO511.out (fun _ hk => ⟨hk.2, hk.1⟩)), (by (with_reducible repeat (first | refine blk_drewN ?_ _ | refine blk_drew ?_ | refine blk_alloc ?_ _)); exact BK493.out), (by (with_reducible repeat (first | refine blk_drewN ?_ _ | refine blk_drew ?_ | refine blk_alloc ?_ _)); exact BK501.out), (by repeat (first | (with_reducible first | exact HB.out | apply below_alloc | apply pw_below_drewN | apply below_drew1 | refine below_set ?_ GE493.out | refine below_set ?_ GE501.out) | exact HB.out))⟩)
                  rintro ⟨v503, v507, v510⟩ w47 ⟨hS_, h0_, h1_, h2_, h3_, h4_⟩
                  have n0_ : Aside0 (Kd.R k36 36 w47 w.heap.size (fun k_ => some k_ ≠ (v510 : Value).ownBlock ∧ k_ ≠ gb493) v507 y506) := ⟨h0_⟩
                  have n1_ : Aside0 (Kd.R k36 36 w47 w.heap.size (fun k_ => some k_ ≠ (v507 : Value).ownBlock ∧ k_ ≠ gb493) v510 y509) := ⟨h1_⟩
                  have n2_ : Aside0 (w47.heap[gb493]? = some (.cells #[.string a2_0, .int .i64 a2_1, .int .i64 a2_2] 36 (0, 0))) := ⟨h2_⟩
                  have n3_ : Aside0 (w47.heap[gb501]? = some (.cells #[.string ((rd_T47 l1 x9_3).f0), .slice A500_1 ((rd_T47 l1 x9_3).f1).length c500_1, .int .i64 ((rd_T47 l1 x9_3).f2), .int .i64 ((rd_T47 l1 x9_3).f3), .int .i64 ((rd_T47 l1 x9_3).f4)] 47 (0, 0))) := ⟨h3_⟩
                  have n4_ : Aside0 (Below w.heap.size w w47) := ⟨h4_⟩
                  clear BK493
                  clear BK501
                  clear HB
                  clear h0_ h1_ h2_ h3_ h4_
                  have HO508 := n0_
                  have HO511 := n1_
                  have BK493 := n2_
                  have BK501 := n3_
                  have HB := n4_
                  clear n0_ n1_ n2_ n3_ n4_
                  have hHeld : w47.cell? ⟨gb493, 0, none⟩ = some (.string a2_0) ∧ w47.cell? ⟨gb493, 1, none⟩ = some (.int .i64 a2_1) ∧ w47.cell? ⟨gb493, 2, none⟩ = some (.int .i64 a2_2) ∧ w47.cell? (ad500.add ((x9_3).toNat * 5)) = some (.string ((rd_T47 l1 x9_3).f0)) ∧ w47.cell? ⟨(ad500.add ((x9_3).toNat * 5)).block, (ad500.add ((x9_3).toNat * 5)).off + 1, none⟩ = some (.slice A505_1 ((rd_T47 l1 x9_3).f1).length c505_1) ∧ w47.cell? ⟨(ad500.add ((x9_3).toNat * 5)).block, (ad500.add ((x9_3).toNat * 5)).off + 2, none⟩ = some (.int .i64 ((rd_T47 l1 x9_3).f2)) ∧ w47.cell? ⟨(ad500.add ((x9_3).toNat * 5)).block, (ad500.add ((x9_3).toNat * 5)).off + 3, none⟩ = some (.int .i64 ((rd_T47 l1 x9_3).f3)) ∧ w47.cell? ⟨(ad500.add ((x9_3).toNat * 5)).block, (ad500.add ((x9_3).toNat * 5)).off + 4, none⟩ = some (.int .i64 ((rd_T47 l1 x9_3).f4)) := hS_
                  obtain ⟨Ao49, co49, eo49⟩ := Kd.R_slice HO511.out
                  (first | subst eo49 | (injection eo49 with f1_ f2_ f3_; have f4_ := f1_.symm; have f5_ := f3_.symm; clear f1_ f2_ f3_; subst f4_; subst f5_))
                  refine norm_ (a' := ?_) ?_ ?_
                  rotate_left
                  ·simp only [putAll, Act.put, List.setIfInBounds_toArray, List.set_cons_zero, List.set_cons_succ]
                   rfl
                  refine one_ (i := 9) (N := some 70) #[true, true, true, true, true, true, true, true, true, true, false, false] rfl rfl (one_of HT_.out (by kernel_rfl)) (by decide) (fun K hK => ?_)
                  refine Kd.R_append_rows_step k36 (w0 := w) w.heap.size (by rfl) (.tmp 67) (.tmp 69) 45 36 (.agg #[(.string ⟨#[]⟩), (.int .i64 0), (.int .i64 0)]) 32 rfl Try.underlying45 info36 rfl (by decide) (by omega) v507 y506 y509 _ _ _ (fun k_ => some k_ ≠ (.slice Ao49 y509.length co49 : Value).ownBlock ∧ k_ ≠ gb493) (fun _ => False) rfl rfl ?aO ?aR (fun _ _ h => h) (fun _ h => h.elim) ?aF ?aB ?aS ?aL ?_
                  (case aR => repeat (first | exact (Kd.R_reads' HO511.out).2.2 | (with_reducible refine Kd.C_alloc ?_ _) | (with_reducible refine Kd.C_drewN ?_ _) | (with_reducible refine Kd.C_drew ?_)))
                  (case aB => exact (by repeat (first | (with_reducible first | exact HB.out | apply below_alloc | apply pw_below_drewN | apply below_drew1 | refine below_set ?_ GE493.out | refine below_set ?_ GE501.out) | exact HB.out)))
                  (case aF => exact (fun k_ hk => ⟨Kd.fresh' (Kd.R_lt (by (with_reducible repeat (first | apply Kd.R_alloc | apply Kd.R_drewN | apply Kd.R_drew)); exact HO511.out)) k_ hk, Kd.freshB (g := gb493) (o := .cells #[.string a2_0, .int .i64 a2_1, .int .i64 a2_2] 36 (0, 0)) (by (with_reducible repeat (first | refine blk_drewN ?_ _ | refine blk_drew ?_ | refine blk_alloc ?_ _)); exact BK493.out) k_ hk⟩))
                  (case aO => exact (by (with_reducible repeat (first | apply Kd.R_alloc | apply Kd.R_drewN | apply Kd.R_drew)); exact HO508.out))
                  (case aS => exact (below_size (by repeat (first | (with_reducible first | exact HB.out | apply below_alloc | apply pw_below_drewN | apply below_drew1 | refine below_set ?_ GE493.out | refine below_set ?_ GE501.out) | exact HB.out))))
                  (case aL => have := LMc31.out; omega)
                  intro v513 w48 ho hb hg hat
                  rw [← Ny512.out] at ho
                  have n0_ := Aside0.mk (blk_grown (g := gb493) (o := .cells #[.string a2_0, .int .i64 a2_1, .int .i64 a2_2] 36 (0, 0)) (by (with_reducible repeat (first | refine blk_drewN ?_ _ | refine blk_drew ?_ | refine blk_alloc ?_ _)); exact BK493.out) hg (Kd.R_away HO508.out (fun _ hk => hk.2)))
                  have n1_ := Aside0.mk (blk_grown (g := gb501) (o := .cells #[.string ((rd_T47 l1 x9_3).f0), .slice A500_1 ((rd_T47 l1 x9_3).f1).length c500_1, .int .i64 ((rd_T47 l1 x9_3).f2), .int .i64 ((rd_T47 l1 x9_3).f3), .int .i64 ((rd_T47 l1 x9_3).f4)] 47 (0, 0)) (by (with_reducible repeat (first | refine blk_drewN ?_ _ | refine blk_drew ?_ | refine blk_alloc ?_ _)); exact BK501.out) hg (Kd.R_ne HO508.out BK501.out (by decide)))
                  have n2_ := Aside0.mk (Kd.R_after (ok := (fun k_ => k_ ≠ gb493)) (by (with_reducible repeat (first | apply Kd.R_alloc | apply Kd.R_drewN | apply Kd.R_drew)); exact Kd.R_mono HO511.out (fun _ hk => ⟨hk.2, hk.1⟩)) hg hat)
                  have n3_ := Aside0.mk (hb)
                  have n4_ := Aside0.mk (ho)
                  clear BK493
                  clear BK501
                  clear HO511
                  clear HB
                  clear HO508
                  have BK493 := n0_
                  have BK501 := n1_
                  have HO511 := n2_
                  have HB := n3_
                  have HO514 := n4_
                  clear n0_ n1_ n2_ n3_ n4_
                  clear ho hb hg hat
                  obtain ⟨Ao50, co50, eo50⟩ := Kd.R_slice HO514.out
                  (first | subst eo50 | (injection eo50 with f1_ f2_ f3_; have f4_ := f1_.symm; have f5_ := f3_.symm; clear f1_ f2_ f3_; subst f4_; subst f5_))
                  refine hK.out _ _ ⟨(blk_cell BK493.out 0).trans rfl, (blk_cell BK493.out 1).trans rfl, (blk_cell BK493.out 2).trans rfl, ((HB.out.cell (World.block_lt_of_cell? w _ hw505_0)).trans hw505_0), ((HB.out.cell (World.block_lt_of_cell? w _ hw505_1)).trans hw505_1), ((HB.out.cell (World.block_lt_of_cell? w _ hw505_2)).trans hw505_2), ((HB.out.cell (World.block_lt_of_cell? w _ hw505_3)).trans hw505_3), ((HB.out.cell (World.block_lt_of_cell? w _ hw505_4)).trans hw505_4)⟩ (fun hHeld => ?_)
                  clear hK K
                  refine norm_ (a' := ?_) ?_ ?_
                  rotate_left
                  ·show Act.put _ (some 70) _ = _
                   simp only [Act.put, List.setIfInBounds_toArray, List.set_cons_zero, List.set_cons_succ, i64_w, i32_w]
                   rfl
                  refine pure_ (i := 10) (N := some 71) (v := ?_) (a' := ?_) #[true, true, true, true, true, true, true, true, true, true, true, false] rfl rfl (any_of HT_.out (by kernel_rfl)) (fun _ _ _ h => h) (Or.inl ⟨by rfl, ?_⟩) ?_ ?_
                  rotate_left
                  ·intro w'
                   go_simp
                   with_reducible rfl
                  rotate_left
                  ·simp only [Act.put, List.setIfInBounds_toArray, List.set_cons_zero, List.set_cons_succ, i64_w, i32_w]
                   rfl
                  refine one_ (i := 11) (N := none) #[true, true, true, true, true, true, true, true, true, true, true, true] rfl rfl (one_of HT_.out (by kernel_rfl)) (by decide) (fun K hK => ?_)
                  have hs51 : w48.cell? ⟨gb501, 1, none⟩ = some (.slice A500_1 ((rd_T47 l1 x9_3).f1).length c500_1) := (blk_cell BK501.out 1).trans rfl
                  have hfs51 := blk_frozen BK501.out 1
                  have hns51_0 := NB493_501.out
                  have hms51_0 := NB501_493.out
                  refine skip_ (w1 := ?_) (by rfl) rfl ?_ ?_
                  rotate_left
                  ·go_simp
                   rfl
                  refine hK.out _ _ ⟨((cell_far (p := ⟨gb501, _, none⟩) NB493_501.out _).trans (hHeld.1)), ((cell_far (p := ⟨gb501, _, none⟩) NB493_501.out _).trans (hHeld.2.1)), ((cell_far (p := ⟨gb501, _, none⟩) NB493_501.out _).trans (hHeld.2.2.1)), ((cell_far (p := ⟨gb501, _, none⟩) (by first | exact Nat.ne_of_lt (Nat.lt_of_lt_of_le (by have := World.block_lt_of_cell? _ _ hw505_0; first | rwa [add_block] at this | exact this) GW501.out) | (rw [add_block]; exact Nat.ne_of_lt (Nat.lt_of_lt_of_le (by have := World.block_lt_of_cell? _ _ hw505_0; first | rwa [add_block] at this | exact this) GW501.out)) | (show (Addr.add _ _).block ≠ _; rw [add_block]; exact Nat.ne_of_lt (Nat.lt_of_lt_of_le (by have := World.block_lt_of_cell? _ _ hw505_0; first | rwa [add_block] at this | exact this) GW501.out)) | (dsimp only; exact Nat.ne_of_lt (Nat.lt_of_lt_of_le (by have := World.block_lt_of_cell? _ _ hw505_0; first | rwa [add_block] at this | exact this) GW501.out))) _).trans (hHeld.2.2.2.1)), ((cell_far (p := ⟨gb501, _, none⟩) (by first | exact Nat.ne_of_lt (Nat.lt_of_lt_of_le (by have := World.block_lt_of_cell? _ _ hw505_1; first | rwa [add_block] at this | exact this) GW501.out) | (rw [add_block]; exact Nat.ne_of_lt (Nat.lt_of_lt_of_le (by have := World.block_lt_of_cell? _ _ hw505_1; first | rwa [add_block] at this | exact this) GW501.out)) | (show (Addr.add _ _).block ≠ _; rw [add_block]; exact Nat.ne_of_lt (Nat.lt_of_lt_of_le (by have := World.block_lt_of_cell? _ _ hw505_1; first | rwa [add_block] at this | exact this) GW501.out)) | (dsimp only; exact Nat.ne_of_lt (Nat.lt_of_lt_of_le (by have := World.block_lt_of_cell? _ _ hw505_1; first | rwa [add_block] at this | exact this) GW501.out))) _).trans (hHeld.2.2.2.2.1)), ((cell_far (p := ⟨gb501, _, none⟩) (by first | exact Nat.ne_of_lt (Nat.lt_of_lt_of_le (by have := World.block_lt_of_cell? _ _ hw505_2; first | rwa [add_block] at this | exact this) GW501.out) | (rw [add_block]; exact Nat.ne_of_lt (Nat.lt_of_lt_of_le (by have := World.block_lt_of_cell? _ _ hw505_2; first | rwa [add_block] at this | exact this) GW501.out)) | (show (Addr.add _ _).block ≠ _; rw [add_block]; exact Nat.ne_of_lt (Nat.lt_of_lt_of_le (by have := World.block_lt_of_cell? _ _ hw505_2; first | rwa [add_block] at this | exact this) GW501.out)) | (dsimp only; exact Nat.ne_of_lt (Nat.lt_of_lt_of_le (by have := World.block_lt_of_cell? _ _ hw505_2; first | rwa [add_block] at this | exact this) GW501.out))) _).trans (hHeld.2.2.2.2.2.1)), ((cell_far (p := ⟨gb501, _, none⟩) (by first | exact Nat.ne_of_lt (Nat.lt_of_lt_of_le (by have := World.block_lt_of_cell? _ _ hw505_3; first | rwa [add_block] at this | exact this) GW501.out) | (rw [add_block]; exact Nat.ne_of_lt (Nat.lt_of_lt_of_le (by have := World.block_lt_of_cell? _ _ hw505_3; first | rwa [add_block] at this | exact this) GW501.out)) | (show (Addr.add _ _).block ≠ _; rw [add_block]; exact Nat.ne_of_lt (Nat.lt_of_lt_of_le (by have := World.block_lt_of_cell? _ _ hw505_3; first | rwa [add_block] at this | exact this) GW501.out)) | (dsimp only; exact Nat.ne_of_lt (Nat.lt_of_lt_of_le (by have := World.block_lt_of_cell? _ _ hw505_3; first | rwa [add_block] at this | exact this) GW501.out))) _).trans (hHeld.2.2.2.2.2.2.1)), ((cell_far (p := ⟨gb501, _, none⟩) (by first | exact Nat.ne_of_lt (Nat.lt_of_lt_of_le (by have := World.block_lt_of_cell? _ _ hw505_4; first | rwa [add_block] at this | exact this) GW501.out) | (rw [add_block]; exact Nat.ne_of_lt (Nat.lt_of_lt_of_le (by have := World.block_lt_of_cell? _ _ hw505_4; first | rwa [add_block] at this | exact this) GW501.out)) | (show (Addr.add _ _).block ≠ _; rw [add_block]; exact Nat.ne_of_lt (Nat.lt_of_lt_of_le (by have := World.block_lt_of_cell? _ _ hw505_4; first | rwa [add_block] at this | exact this) GW501.out)) | (dsimp only; exact Nat.ne_of_lt (Nat.lt_of_lt_of_le (by have := World.block_lt_of_cell? _ _ hw505_4; first | rwa [add_block] at this | exact this) GW501.out))) _).trans (hHeld.2.2.2.2.2.2.2))⟩ (fun hHeld => ?_)
                  clear hK K
                  refine done_ (done_of HT_.out (by kernel_rfl)) ?_
                  have n0_ : Aside0 (Kd.R k36 36 (w48.setCell ⟨gb501, 1, none⟩ (.slice Ao50 y512.length co50)) w.heap.size (fun k_ => some k_ ≠ (.slice Ao50 y512.length co50 : Value).ownBlock ∧ k_ ≠ gb493) (.slice Ao49 y509.length co49) y509) := ⟨by (with_reducible repeat (first | apply Kd.R_alloc | apply Kd.R_drewN | apply Kd.R_drew)); exact Kd.R_mono (Kd.R_far (p := ⟨gb501, 1, none⟩) (Kd.R_types HO511.out BK501.out (by decide)) (fun _ hk => hk.2) (.slice Ao50 y512.length co50)) (fun _ hk => ⟨hk.1.2, hk.1.1⟩)⟩
                  have n1_ : Aside0 (Kd.R k36 36 (w48.setCell ⟨gb501, 1, none⟩ (.slice Ao50 y512.length co50)) w.heap.size (fun k_ => some k_ ≠ (.slice Ao49 y509.length co49 : Value).ownBlock ∧ k_ ≠ gb493) (.slice Ao50 y512.length co50) y512) := ⟨by (with_reducible repeat (first | apply Kd.R_alloc | apply Kd.R_drewN | apply Kd.R_drew)); exact Kd.R_mono (Kd.R_far (p := ⟨gb501, 1, none⟩) (Kd.R_types HO514.out BK501.out (by decide)) (fun _ hk => hk.2) (.slice Ao50 y512.length co50)) (fun _ hk => ⟨hk.1.1, hk.1.2⟩)⟩
                  have n2_ : Aside0 ((w48.setCell ⟨gb501, 1, none⟩ (.slice Ao50 y512.length co50)).heap[gb493]? = some (.cells #[.string a2_0, .int .i64 a2_1, .int .i64 a2_2] 36 (0, 0))) := ⟨by (with_reducible repeat (first | refine blk_drewN ?_ _ | refine blk_drew ?_ | refine blk_alloc ?_ _)); refine blk_far ?_ NB493_501.out _; (with_reducible repeat (first | refine blk_drewN ?_ _ | refine blk_drew ?_ | refine blk_alloc ?_ _)); exact BK493.out⟩
                  have n3_ : Aside0 ((w48.setCell ⟨gb501, 1, none⟩ (.slice Ao50 y512.length co50)).heap[gb501]? = some (.cells #[.string ((rd_T47 l1 x9_3).f0), .slice Ao50 y512.length co50, .int .i64 ((rd_T47 l1 x9_3).f2), .int .i64 ((rd_T47 l1 x9_3).f3), .int .i64 ((rd_T47 l1 x9_3).f4)] 47 (0, 0))) := ⟨by (with_reducible repeat (first | refine blk_drewN ?_ _ | refine blk_drew ?_ | refine blk_alloc ?_ _)); refine blk_put (cs := #[.string ((rd_T47 l1 x9_3).f0), .slice A500_1 ((rd_T47 l1 x9_3).f1).length c500_1, .int .i64 ((rd_T47 l1 x9_3).f2), .int .i64 ((rd_T47 l1 x9_3).f3), .int .i64 ((rd_T47 l1 x9_3).f4)]) ?_ 1 _ rfl; (with_reducible repeat (first | refine blk_drewN ?_ _ | refine blk_drew ?_ | refine blk_alloc ?_ _)); exact BK501.out⟩
                  have n4_ : Aside0 (Below w.heap.size w (w48.setCell ⟨gb501, 1, none⟩ (.slice Ao50 y512.length co50))) := ⟨by repeat (first | (with_reducible first | exact HB.out | apply below_alloc | apply pw_below_drewN | apply below_drew1 | refine below_set ?_ GE493.out | refine below_set ?_ GE501.out) | exact HB.out)⟩
                  (try clear HO511)
                  (try clear HO514)
                  (try clear BK493)
                  (try clear BK501)
                  (try clear HB)
                  generalize (w48.setCell ⟨gb501, 1, none⟩ (.slice Ao50 y512.length co50)) = w52 at n0_ n1_ n2_ n3_ n4_ ⊢
                  have HO511 := n0_
                  have HO514 := n1_
                  have BK493 := n2_
                  have BK501 := n3_
                  have HB := n4_
                  clear n0_ n1_ n2_ n3_ n4_
                  have p515 : 0 ≤ (x9_3 : Int) := of_decide_eq_true (by first | (with_reducible assumption) | assumption)
                  have q515 : x9_3 < (l1.length : Int) := of_decide_eq_true (by first | (with_reducible assumption) | assumption)
                  obtain ⟨ad515, A515_1, c515_1, e515, hx515_0, hx515_1, hx515_2, hx515_3, hx515_4, hl515_1, hi515_1⟩ := at_T47 HR1.out x9_3 p515 q515
                  obtain rfl : ad500 = ad515 := (by injection e515)
                  replace hx515_0 := (HB.out.cell (World.block_lt_of_cell? w _ hx515_0)).trans hx515_0
                  replace hx515_1 := (HB.out.cell (World.block_lt_of_cell? w _ hx515_1)).trans hx515_1
                  replace hx515_2 := (HB.out.cell (World.block_lt_of_cell? w _ hx515_2)).trans hx515_2
                  replace hx515_3 := (HB.out.cell (World.block_lt_of_cell? w _ hx515_3)).trans hx515_3
                  replace hx515_4 := (HB.out.cell (World.block_lt_of_cell? w _ hx515_4)).trans hx515_4
                  have HR515_1 := Aside0.mk hi515_1
                  have HC515_1 := Aside0.mk hl515_1
                  clear hi515_1 hl515_1
                  replace p515 := eq_true p515
                  replace q515 := eq_true q515
                  try go_wp2_with (first | ((with_reducible refine gate_callee (f := 20) rfl ?_); refine goesL_ (some 78) rfl rfl Try.func20 (by kernel_rfl) rfl #[.slice A0 l0.length c0, .agg #[.string ((rd_T47 l1 x9_3).f0), .slice A515_1 ((rd_T47 l1 x9_3).f1).length c515_1, .int .i64 ((rd_T47 l1 x9_3).f2), .int .i64 ((rd_T47 l1 x9_3).f3), .int .i64 ((rd_T47 l1 x9_3).f4)]] rfl (by (try simp only [List.map_toArray, List.map_cons, List.map_nil]); first | done | rfl | (simp only [List.length_drop, List.length_take]; rfl)) ?_; (with_reducible refine (machine_Chain.calls k3 _ _ l0 ((rd_T47 l1 x9_3).f0) (fun k_ => k_ < w.heap.size) _ _ ((rd_T47 l1 x9_3).f1) ((rd_T47 l1 x9_3).f2) ((rd_T47 l1 x9_3).f3) ((rd_T47 l1 x9_3).f4) t516 t517 _ ?side1 ?side2 ?side3 A32.out).mono ?_); (case side1 => repeat (first | exact (Kd.C_below HR0.out HB.out) | (with_reducible refine Kd.C_alloc ?_ _) | (with_reducible refine Kd.C_drewN ?_ _) | (with_reducible refine Kd.C_drew ?_))); (case side2 => exact HC0.out); (case side3 => exact Kd.V_mk HC515_1.out (Kd.F_below (Kd.C_F k36_heap HR515_1.out) (by repeat (first | (with_reducible first | exact HB.out | apply below_alloc | apply pw_below_drewN | apply below_drew1 | refine below_set ?_ GE493.out | refine below_set ?_ GE501.out) | exact HB.out)))); rintro e w53 ⟨rfl, hb⟩; refine ⟨_, rfl, ?_⟩; have n0_ := Aside0.mk (Kd.R_below (by (with_reducible repeat (first | apply Kd.R_alloc | apply Kd.R_drewN | apply Kd.R_drew)); exact HO511.out) hb); have n1_ := Aside0.mk (Kd.R_below (by (with_reducible repeat (first | apply Kd.R_alloc | apply Kd.R_drewN | apply Kd.R_drew)); exact HO514.out) hb); have n2_ := Aside0.mk (blk_below (g := gb493) (o := .cells #[.string a2_0, .int .i64 a2_1, .int .i64 a2_2] 36 (0, 0)) (by (with_reducible repeat (first | refine blk_drewN ?_ _ | refine blk_drew ?_ | refine blk_alloc ?_ _)); exact BK493.out) hb); have n3_ := Aside0.mk (blk_below (g := gb501) (o := .cells #[.string ((rd_T47 l1 x9_3).f0), .slice Ao50 y512.length co50, .int .i64 ((rd_T47 l1 x9_3).f2), .int .i64 ((rd_T47 l1 x9_3).f3), .int .i64 ((rd_T47 l1 x9_3).f4)] 47 (0, 0)) (by (with_reducible repeat (first | refine blk_drewN ?_ _ | refine blk_drew ?_ | refine blk_alloc ?_ _)); exact BK501.out) hb); have n4_ := Aside0.mk (below_step (by repeat (first | (with_reducible first | exact HB.out | apply below_alloc | apply pw_below_drewN | apply below_drew1 | refine below_set ?_ GE493.out | refine below_set ?_ GE501.out) | exact HB.out)) hb); clear HO511; clear HO514; clear BK493; clear BK501; clear HB; have HO511 := n0_; have HO514 := n1_; have BK493 := n2_; have BK501 := n3_; have HB := n4_; clear n0_ n1_ n2_ n3_ n4_; (try clear hb); (try clear hb2); (try clear hk); (try clear hi); have hcz54_0 : w53.cell? ⟨gb501, 0, none⟩ = some (.string ((rd_T47 l1 x9_3).f0)) := (blk_cell BK501.out 0).trans rfl; have hcz54_1 : w53.cell? ⟨gb501, 1, none⟩ = some (.slice Ao50 y512.length co50) := (blk_cell BK501.out 1).trans rfl; have hcz54_2 : w53.cell? ⟨gb501, 2, none⟩ = some (.int .i64 ((rd_T47 l1 x9_3).f2)) := (blk_cell BK501.out 2).trans rfl; have hcz54_3 : w53.cell? ⟨gb501, 3, none⟩ = some (.int .i64 ((rd_T47 l1 x9_3).f3)) := (blk_cell BK501.out 3).trans rfl; have hcz54_4 : w53.cell? ⟨gb501, 4, none⟩ = some (.int .i64 ((rd_T47 l1 x9_3).f4)) := (blk_cell BK501.out 4).trans rfl; have hfz54_0 := blk_frozen BK501.out 0; have hfz54_1 := blk_frozen BK501.out 1; have hfz54_2 := blk_frozen BK501.out 2; have hfz54_3 := blk_frozen BK501.out 3; have hfz54_4 := blk_frozen BK501.out 4) | ((with_reducible refine gate_callee (f := 20) rfl ?_); refine goesL_ (some 84) rfl rfl Try.func20 (by kernel_rfl) rfl #[.slice A0 l0.length c0, .agg #[.string ((rd_T47 l1 x9_3).f0), .slice Ao50 y512.length co50, .int .i64 ((rd_T47 l1 x9_3).f2), .int .i64 ((rd_T47 l1 x9_3).f3), .int .i64 ((rd_T47 l1 x9_3).f4)]] rfl (by (try simp only [List.map_toArray, List.map_cons, List.map_nil]); first | done | rfl | (simp only [List.length_drop, List.length_take]; rfl)) ?_; (with_reducible refine (machine_Chain.calls k3 _ _ l0 ((rd_T47 l1 x9_3).f0) (fun k_ => some k_ = (.slice Ao50 y512.length co50 : Value).ownBlock) _ _ y512 ((rd_T47 l1 x9_3).f2) ((rd_T47 l1 x9_3).f3) ((rd_T47 l1 x9_3).f4) t518 t519 _ ?side1 ?side2 ?side3 A33.out).mono ?_); (case side1 => repeat (first | exact (Kd.C_below HR0.out HB.out) | (with_reducible refine Kd.C_alloc ?_ _) | (with_reducible refine Kd.C_drewN ?_ _) | (with_reducible refine Kd.C_drew ?_))); (case side2 => exact HC0.out); (case side3 => exact Kd.R_V (Kd.R_tight rfl (Kd.R_types (HO514.out) BK501.out (by decide)))); rintro e w55 ⟨rfl, hb⟩; refine ⟨_, rfl, ?_⟩; have n0_ := Aside0.mk (Kd.R_below (by (with_reducible repeat (first | apply Kd.R_alloc | apply Kd.R_drewN | apply Kd.R_drew)); exact HO511.out) hb); have n1_ := Aside0.mk (Kd.R_below (by (with_reducible repeat (first | apply Kd.R_alloc | apply Kd.R_drewN | apply Kd.R_drew)); exact HO514.out) hb); have n2_ := Aside0.mk (blk_below (g := gb493) (o := .cells #[.string a2_0, .int .i64 a2_1, .int .i64 a2_2] 36 (0, 0)) (by (with_reducible repeat (first | refine blk_drewN ?_ _ | refine blk_drew ?_ | refine blk_alloc ?_ _)); exact BK493.out) hb); have n3_ := Aside0.mk (blk_below (g := gb501) (o := .cells #[.string ((rd_T47 l1 x9_3).f0), .slice Ao50 y512.length co50, .int .i64 ((rd_T47 l1 x9_3).f2), .int .i64 ((rd_T47 l1 x9_3).f3), .int .i64 ((rd_T47 l1 x9_3).f4)] 47 (0, 0)) (by (with_reducible repeat (first | refine blk_drewN ?_ _ | refine blk_drew ?_ | refine blk_alloc ?_ _)); exact BK501.out) hb); have n4_ := Aside0.mk (below_step (by repeat (first | (with_reducible first | exact HB.out | apply below_alloc | apply pw_below_drewN | apply below_drew1 | refine below_set ?_ GE493.out | refine below_set ?_ GE501.out) | exact HB.out)) hb); clear HO511; clear HO514; clear BK493; clear BK501; clear HB; have HO511 := n0_; have HO514 := n1_; have BK493 := n2_; have BK501 := n3_; have HB := n4_; clear n0_ n1_ n2_ n3_ n4_; (try clear hb); (try clear hb2); (try clear hk); (try clear hi); have hcz56_0 : w55.cell? ⟨gb493, 0, none⟩ = some (.string a2_0) := (blk_cell BK493.out 0).trans rfl; have hcz56_1 : w55.cell? ⟨gb493, 1, none⟩ = some (.int .i64 a2_1) := (blk_cell BK493.out 1).trans rfl; have hcz56_2 : w55.cell? ⟨gb493, 2, none⟩ = some (.int .i64 a2_2) := (blk_cell BK493.out 2).trans rfl; have hfz56_0 := blk_frozen BK493.out 0; have hfz56_1 := blk_frozen BK493.out 1; have hfz56_2 := blk_frozen BK493.out 2))
                  go_roundg k3
                  case measure => have := HJ5.out; have := HJ14.out; have := HK3.out; omega
                  case rel => exact ⟨(wrap64 (x9_3 + 1)), (by first | rfl | (simp; done) | (simp [*]; done)), H', ⟨by have := HJ5.out; have := HJ14.out; have := HK3.out; omega⟩, ⟨by (with_reducible repeat (first | refine blk_drewN ?_ _ | refine blk_drew ?_ | refine blk_alloc ?_ _)); exact BK493.out⟩, ⟨by repeat (first | (with_reducible first | exact HB.out | apply below_alloc | apply pw_below_drewN | apply below_drew1 | refine below_set ?_ GE493.out | refine below_set ?_ GE501.out) | exact HB.out)⟩⟩
                 ·rw [if_neg c36] at H
                  have c36b0 : (t518 == (wrap64 ((wrap64 (t516 + a2_1)) + a2_2))) = false := beq_eq_false_iff_ne.mpr c36
                  have c36b1 : (t518 != (wrap64 ((wrap64 (t516 + a2_1)) + a2_2))) = true := bne_iff_ne.mpr c36
                  obtain rfl := Option.some.inj H
                  exact absurd hr (by decide)
                ·rw [if_neg c35] at H
                 have c35b0 : (t519 == 0) = false := beq_eq_false_iff_ne.mpr c35
                 have c35b1 : (t519 != 0) = true := bne_iff_ne.mpr c35
                 have H' := Aside0.mk H
                 clear H
                 have p500 : 0 ≤ (x9_3 : Int) := of_decide_eq_true (by first | (with_reducible assumption) | assumption)
                 have q500 : x9_3 < (l1.length : Int) := of_decide_eq_true (by first | (with_reducible assumption) | assumption)
                 obtain ⟨ad500, A500_1, c500_1, e500, hx500_0, hx500_1, hx500_2, hx500_3, hx500_4, hl500_1, hi500_1⟩ := at_T47 HR1.out x9_3 p500 q500
                 cases e500
                 replace hx500_0 := (HB.out.cell (World.block_lt_of_cell? w _ hx500_0)).trans hx500_0
                 replace hx500_1 := (HB.out.cell (World.block_lt_of_cell? w _ hx500_1)).trans hx500_1
                 replace hx500_2 := (HB.out.cell (World.block_lt_of_cell? w _ hx500_2)).trans hx500_2
                 replace hx500_3 := (HB.out.cell (World.block_lt_of_cell? w _ hx500_3)).trans hx500_3
                 replace hx500_4 := (HB.out.cell (World.block_lt_of_cell? w _ hx500_4)).trans hx500_4
                 have HR500_1 := Aside0.mk hi500_1
                 have HC500_1 := Aside0.mk hl500_1
                 clear hi500_1 hl500_1
                 replace p500 := eq_true p500
                 replace q500 := eq_true q500
                 try go_wp2_with (first | ((with_reducible refine gate_dst (N := 10) rfl ?_); (try (refine gate_guard (by rfl) ?_; dsimp only)); refine box_event ?hg (N := 10) ?hd (cs := #[.string (⟨#[]⟩ : ByteArray), .slice none 0 0, .int .i64 0, .int .i64 0, .int .i64 0]) (t := 47) ?hr ?_; (case hd => rfl); (case hg => rfl); (case hr => first | (go_simp; done) | (go_simp; rfl)); intro gb501 hg w57 hbox hb; have n0_ := Aside0.mk (blk_below (g := gb493) (o := .cells #[.string a2_0, .int .i64 a2_1, .int .i64 a2_2] 36 (0, 0)) (by (with_reducible repeat (first | refine blk_drewN ?_ _ | refine blk_drew ?_ | refine blk_alloc ?_ _)); exact BK493.out) hb); have n1_ := Aside0.mk (below_step (by repeat (first | (with_reducible first | exact HB.out | apply below_alloc | apply pw_below_drewN | apply below_drew1 | refine below_set ?_ GE493.out) | exact HB.out)) hb); have n2_ := Aside0.mk (hbox); have n3_ := Aside0.mk ((by rw [hg]; exact (below_size (by repeat (first | (with_reducible first | exact HB.out | apply below_alloc | apply pw_below_drewN | apply below_drew1 | refine below_set ?_ GE493.out) | exact HB.out))) : w.heap.size ≤ gb501)); have n4_ := Aside0.mk ((by rw [hg]; exact (below_size (by repeat (first | (with_reducible first | exact HB.out | apply below_alloc | apply pw_below_drewN | apply below_drew1 | refine below_set ?_ GE493.out) | exact HB.out))) : w.heap.size ≤ gb501)); have n5_ := Aside0.mk ((by rw [hg]; exact Nat.ne_of_lt (blk_lt (g := gb493) (o := .cells #[.string a2_0, .int .i64 a2_1, .int .i64 a2_2] 36 (0, 0)) (by (with_reducible repeat (first | refine blk_drewN ?_ _ | refine blk_drew ?_ | refine blk_alloc ?_ _)); exact BK493.out)) : gb493 ≠ gb501)); have n6_ := Aside0.mk ((by rw [hg]; exact Nat.ne_of_gt (blk_lt (g := gb493) (o := .cells #[.string a2_0, .int .i64 a2_1, .int .i64 a2_2] 36 (0, 0)) (by (with_reducible repeat (first | refine blk_drewN ?_ _ | refine blk_drew ?_ | refine blk_alloc ?_ _)); exact BK493.out)) : gb501 ≠ gb493)); clear BK493; clear HB; have BK493 := n0_; have HB := n1_; have BK501 := n2_; have GW501 := n3_; have GE501 := n4_; have NB493_501 := n5_; have NB501_493 := n6_; clear n0_ n1_ n2_ n3_ n4_ n5_ n6_; clear hb hbox hg; have hnb58 := NB501_493.out; have hnc58 := NB493_501.out; have hcz59_0 : w57.cell? ⟨gb501, 0, none⟩ = some (.string (⟨#[]⟩ : ByteArray)) := (blk_cell BK501.out 0).trans rfl; have hcz59_1 : w57.cell? ⟨gb501, 1, none⟩ = some (.slice none 0 0) := (blk_cell BK501.out 1).trans rfl; have hcz59_2 : w57.cell? ⟨gb501, 2, none⟩ = some (.int .i64 0) := (blk_cell BK501.out 2).trans rfl; have hcz59_3 : w57.cell? ⟨gb501, 3, none⟩ = some (.int .i64 0) := (blk_cell BK501.out 3).trans rfl; have hcz59_4 : w57.cell? ⟨gb501, 4, none⟩ = some (.int .i64 0) := (blk_cell BK501.out 4).trans rfl; have hfz59_0 := blk_frozen BK501.out 0; have hfz59_1 := blk_frozen BK501.out 1; have hfz59_2 := blk_frozen BK501.out 2; have hfz59_3 := blk_frozen BK501.out 3; have hfz59_4 := blk_frozen BK501.out 4))
                 have n0_ : Aside0 ((((((w57.setCell ⟨gb501, 0, none⟩ (.string ((rd_T47 l1 x9_3).f0))).setCell ⟨gb501, 1, none⟩ (.slice A500_1 ((rd_T47 l1 x9_3).f1).length c500_1)).setCell ⟨gb501, 2, none⟩ (.int .i64 ((rd_T47 l1 x9_3).f2))).setCell ⟨gb501, 3, none⟩ (.int .i64 ((rd_T47 l1 x9_3).f3))).setCell ⟨gb501, 4, none⟩ (.int .i64 ((rd_T47 l1 x9_3).f4))).heap[gb493]? = some (.cells #[.string a2_0, .int .i64 a2_1, .int .i64 a2_2] 36 (0, 0))) := ⟨by (with_reducible repeat (first | refine blk_drewN ?_ _ | refine blk_drew ?_ | refine blk_alloc ?_ _)); refine blk_far ?_ NB493_501.out _; (with_reducible repeat (first | refine blk_drewN ?_ _ | refine blk_drew ?_ | refine blk_alloc ?_ _)); refine blk_far ?_ NB493_501.out _; (with_reducible repeat (first | refine blk_drewN ?_ _ | refine blk_drew ?_ | refine blk_alloc ?_ _)); refine blk_far ?_ NB493_501.out _; (with_reducible repeat (first | refine blk_drewN ?_ _ | refine blk_drew ?_ | refine blk_alloc ?_ _)); refine blk_far ?_ NB493_501.out _; (with_reducible repeat (first | refine blk_drewN ?_ _ | refine blk_drew ?_ | refine blk_alloc ?_ _)); refine blk_far ?_ NB493_501.out _; (with_reducible repeat (first | refine blk_drewN ?_ _ | refine blk_drew ?_ | refine blk_alloc ?_ _)); exact BK493.out⟩
                 have n1_ : Aside0 ((((((w57.setCell ⟨gb501, 0, none⟩ (.string ((rd_T47 l1 x9_3).f0))).setCell ⟨gb501, 1, none⟩ (.slice A500_1 ((rd_T47 l1 x9_3).f1).length c500_1)).setCell ⟨gb501, 2, none⟩ (.int .i64 ((rd_T47 l1 x9_3).f2))).setCell ⟨gb501, 3, none⟩ (.int .i64 ((rd_T47 l1 x9_3).f3))).setCell ⟨gb501, 4, none⟩ (.int .i64 ((rd_T47 l1 x9_3).f4))).heap[gb501]? = some (.cells #[.string ((rd_T47 l1 x9_3).f0), .slice A500_1 ((rd_T47 l1 x9_3).f1).length c500_1, .int .i64 ((rd_T47 l1 x9_3).f2), .int .i64 ((rd_T47 l1 x9_3).f3), .int .i64 ((rd_T47 l1 x9_3).f4)] 47 (0, 0))) := ⟨by (with_reducible repeat (first | refine blk_drewN ?_ _ | refine blk_drew ?_ | refine blk_alloc ?_ _)); refine blk_put (cs := #[.string ((rd_T47 l1 x9_3).f0), .slice A500_1 ((rd_T47 l1 x9_3).f1).length c500_1, .int .i64 ((rd_T47 l1 x9_3).f2), .int .i64 ((rd_T47 l1 x9_3).f3), .int .i64 0]) ?_ 4 _ rfl; (with_reducible repeat (first | refine blk_drewN ?_ _ | refine blk_drew ?_ | refine blk_alloc ?_ _)); refine blk_put (cs := #[.string ((rd_T47 l1 x9_3).f0), .slice A500_1 ((rd_T47 l1 x9_3).f1).length c500_1, .int .i64 ((rd_T47 l1 x9_3).f2), .int .i64 0, .int .i64 0]) ?_ 3 _ rfl; (with_reducible repeat (first | refine blk_drewN ?_ _ | refine blk_drew ?_ | refine blk_alloc ?_ _)); refine blk_put (cs := #[.string ((rd_T47 l1 x9_3).f0), .slice A500_1 ((rd_T47 l1 x9_3).f1).length c500_1, .int .i64 0, .int .i64 0, .int .i64 0]) ?_ 2 _ rfl; (with_reducible repeat (first | refine blk_drewN ?_ _ | refine blk_drew ?_ | refine blk_alloc ?_ _)); refine blk_put (cs := #[.string ((rd_T47 l1 x9_3).f0), .slice none 0 0, .int .i64 0, .int .i64 0, .int .i64 0]) ?_ 1 _ rfl; (with_reducible repeat (first | refine blk_drewN ?_ _ | refine blk_drew ?_ | refine blk_alloc ?_ _)); refine blk_put (cs := #[.string (⟨#[]⟩ : ByteArray), .slice none 0 0, .int .i64 0, .int .i64 0, .int .i64 0]) ?_ 0 _ rfl; (with_reducible repeat (first | refine blk_drewN ?_ _ | refine blk_drew ?_ | refine blk_alloc ?_ _)); exact BK501.out⟩
                 have n2_ : Aside0 (Below w.heap.size w (((((w57.setCell ⟨gb501, 0, none⟩ (.string ((rd_T47 l1 x9_3).f0))).setCell ⟨gb501, 1, none⟩ (.slice A500_1 ((rd_T47 l1 x9_3).f1).length c500_1)).setCell ⟨gb501, 2, none⟩ (.int .i64 ((rd_T47 l1 x9_3).f2))).setCell ⟨gb501, 3, none⟩ (.int .i64 ((rd_T47 l1 x9_3).f3))).setCell ⟨gb501, 4, none⟩ (.int .i64 ((rd_T47 l1 x9_3).f4)))) := ⟨by repeat (first | (with_reducible first | exact HB.out | apply below_alloc | apply pw_below_drewN | apply below_drew1 | refine below_set ?_ GE493.out | refine below_set ?_ GE501.out) | exact HB.out)⟩
                 (try clear BK493)
                 (try clear BK501)
                 (try clear HB)
                 generalize (((((w57.setCell ⟨gb501, 0, none⟩ (.string ((rd_T47 l1 x9_3).f0))).setCell ⟨gb501, 1, none⟩ (.slice A500_1 ((rd_T47 l1 x9_3).f1).length c500_1)).setCell ⟨gb501, 2, none⟩ (.int .i64 ((rd_T47 l1 x9_3).f2))).setCell ⟨gb501, 3, none⟩ (.int .i64 ((rd_T47 l1 x9_3).f3))).setCell ⟨gb501, 4, none⟩ (.int .i64 ((rd_T47 l1 x9_3).f4))) = w60 at n0_ n1_ n2_ ⊢
                 have BK493 := n0_
                 have BK501 := n1_
                 have HB := n2_
                 clear n0_ n1_ n2_
                 have n0_ := Aside0.mk (blk_drew BK493.out)
                 have n1_ := Aside0.mk (blk_drew BK501.out)
                 have n2_ := Aside0.mk (below_drew1 HB.out)
                 clear BK493
                 clear BK501
                 clear HB
                 have BK493 := n0_
                 have BK501 := n1_
                 have HB := n2_
                 clear n0_ n1_ n2_
                 have p505 : 0 ≤ (x9_3 : Int) := of_decide_eq_true (by first | (with_reducible assumption) | assumption)
                 have q505 : x9_3 < (l1.length : Int) := of_decide_eq_true (by first | (with_reducible assumption) | assumption)
                 obtain ⟨ad505, A505_1, c505_1, e505, hx505_0, hx505_1, hx505_2, hx505_3, hx505_4, hl505_1, hi505_1⟩ := at_T47 HR1.out x9_3 p505 q505
                 have hw505_4 := hx505_4
                 have hw505_3 := hx505_3
                 have hw505_2 := hx505_2
                 have hw505_1 := hx505_1
                 have hw505_0 := hx505_0
                 obtain rfl : ad500 = ad505 := (by injection e505)
                 replace hx505_0 := (HB.out.cell (World.block_lt_of_cell? w _ hx505_0)).trans hx505_0
                 replace hx505_1 := (HB.out.cell (World.block_lt_of_cell? w _ hx505_1)).trans hx505_1
                 replace hx505_2 := (HB.out.cell (World.block_lt_of_cell? w _ hx505_2)).trans hx505_2
                 replace hx505_3 := (HB.out.cell (World.block_lt_of_cell? w _ hx505_3)).trans hx505_3
                 replace hx505_4 := (HB.out.cell (World.block_lt_of_cell? w _ hx505_4)).trans hx505_4
                 have HR505_1 := Aside0.mk hi505_1
                 have HC505_1 := Aside0.mk hl505_1
                 clear hi505_1 hl505_1
                 replace p505 := eq_true p505
                 replace q505 := eq_true q505
                 refine start_ (n := 12) (S := fun w' => w'.cell? ⟨gb493, 0, none⟩ = some (.string a2_0) ∧ w'.cell? ⟨gb493, 1, none⟩ = some (.int .i64 a2_1) ∧ w'.cell? ⟨gb493, 2, none⟩ = some (.int .i64 a2_2) ∧ w'.cell? (ad500.add ((x9_3).toNat * 5)) = some (.string ((rd_T47 l1 x9_3).f0)) ∧ w'.cell? ⟨(ad500.add ((x9_3).toNat * 5)).block, (ad500.add ((x9_3).toNat * 5)).off + 1, none⟩ = some (.slice A505_1 ((rd_T47 l1 x9_3).f1).length c505_1) ∧ w'.cell? ⟨(ad500.add ((x9_3).toNat * 5)).block, (ad500.add ((x9_3).toNat * 5)).off + 2, none⟩ = some (.int .i64 ((rd_T47 l1 x9_3).f2)) ∧ w'.cell? ⟨(ad500.add ((x9_3).toNat * 5)).block, (ad500.add ((x9_3).toNat * 5)).off + 3, none⟩ = some (.int .i64 ((rd_T47 l1 x9_3).f3)) ∧ w'.cell? ⟨(ad500.add ((x9_3).toNat * 5)).block, (ad500.add ((x9_3).toNat * 5)).off + 4, none⟩ = some (.int .i64 ((rd_T47 l1 x9_3).f4))) (ds := []) #[false, false, false, false, false, false, false, false, false, false, false, false] (by kernel_rfl) rfl rfl ⟨(blk_cell BK493.out 0).trans rfl, (blk_cell BK493.out 1).trans rfl, (blk_cell BK493.out 2).trans rfl, ((HB.out.cell (World.block_lt_of_cell? w _ hw505_0)).trans hw505_0), ((HB.out.cell (World.block_lt_of_cell? w _ hw505_1)).trans hw505_1), ((HB.out.cell (World.block_lt_of_cell? w _ hw505_2)).trans hw505_2), ((HB.out.cell (World.block_lt_of_cell? w _ hw505_3)).trans hw505_3), ((HB.out.cell (World.block_lt_of_cell? w _ hw505_4)).trans hw505_4)⟩ (fun hHeld => ?_); refine with_tabW gangsawlaw49_MachineLonger.tab15 gangsawlaw49_MachineLonger.bits15 (fun HT_ HW_ => ?_)
                 generalize w60.drew = w61 at BK493 BK501 HB HR505_1 hx505_0 hx505_1 hx505_2 hx505_3 hx505_4 hHeld ⊢
                 refine pure_ (i := 1) (N := some 62) (v := ?_) (a' := ?_) #[false, true, false, false, false, false, false, false, false, false, false, false] rfl rfl (any_of HT_.out (by kernel_rfl)) (fun _ _ _ h => h) (Or.inl ⟨by rfl, ?_⟩) ?_ ?_
                 rotate_left
                 ·intro w'
                  go_simp
                  with_reducible rfl
                 rotate_left
                 ·simp only [Act.put, List.setIfInBounds_toArray, List.set_cons_zero, List.set_cons_succ, i64_w, i32_w]
                  rfl
                 refine pure_ (i := 2) (N := some 63) (v := ?_) (a' := ?_) #[false, true, true, false, false, false, false, false, false, false, false, false] rfl rfl (any_of HT_.out (by kernel_rfl)) (fun _ _ _ h => h) (Or.inl ⟨by rfl, ?_⟩) ?_ ?_
                 rotate_left
                 ·intro w'
                  go_simp
                  with_reducible rfl
                 rotate_left
                 ·simp only [Act.put, List.setIfInBounds_toArray, List.set_cons_zero, List.set_cons_succ, i64_w, i32_w]
                  rfl
                 refine pure_ (i := 3) (N := some 64) (v := ?_) (a' := ?_) #[false, true, true, true, false, false, false, false, false, false, false, false] rfl rfl (any_of HT_.out (by kernel_rfl)) (fun _ _ _ h => h) (Or.inl ⟨by rfl, ?_⟩) ?_ ?_
                 rotate_left
                 ·intro w'
                  go_simp
                  with_reducible rfl
                 rotate_left
                 ·simp only [Act.put, List.setIfInBounds_toArray, List.set_cons_zero, List.set_cons_succ, i64_w, i32_w]
                  rfl
                 refine pure_ (i := 4) (N := some 65) (v := ?_) (a' := ?_) #[false, true, true, true, true, false, false, false, false, false, false, false] rfl rfl (any_of HT_.out (by kernel_rfl)) (fun _ _ _ h => h) (Or.inl ⟨by rfl, ?_⟩) ?_ ?_
                 rotate_left
                 ·intro w'
                  go_simp
                  with_reducible rfl
                 rotate_left
                 ·simp only [Act.put, List.setIfInBounds_toArray, List.set_cons_zero, List.set_cons_succ, i64_w, i32_w]
                  rfl
                 refine take_ (i := 5) (N := some 66) (v := ?_) (a' := ?_) #[false, true, true, true, true, true, false, false, false, false, false, false] rfl rfl (take_ofW HT_.out HW_.out (by kernel_rfl)) (fun _ _ _ h => h) (Or.inl ⟨by rfl, ?_⟩) hHeld ?_ ?_
                 rotate_left
                 ·rintro w' ⟨s0, s1, s2, s3, s4, s5, s6, s7⟩
                  go_simp
                  with_reducible rfl
                 rotate_left
                 ·simp only [Act.put, List.setIfInBounds_toArray, List.set_cons_zero, List.set_cons_succ, i64_w, i32_w]
                  rfl
                 refine take_ (i := 7) (N := some 68) (v := ?_) (a' := ?_) #[false, true, true, true, true, true, false, true, false, false, false, false] rfl rfl (take_ofW HT_.out HW_.out (by kernel_rfl)) (fun _ _ _ h => h) (Or.inl ⟨by rfl, ?_⟩) hHeld ?_ ?_
                 rotate_left
                 ·rintro w' ⟨s0, s1, s2, s3, s4, s5, s6, s7⟩
                  go_simp
                  with_reducible rfl
                 rotate_left
                 ·simp only [Act.put, List.setIfInBounds_toArray, List.set_cons_zero, List.set_cons_succ, i64_w, i32_w]
                  rfl
                 refine join_ (σ := Value × Value × Value) 3 #[true, true, true, true, true, true, true, true, true, false, false, false] (fun s_ => [(61, s_.1), (67, s_.2.1), (69, s_.2.2)]) (fun s_ w' => (w'.cell? ⟨gb493, 0, none⟩ = some (.string a2_0) ∧ w'.cell? ⟨gb493, 1, none⟩ = some (.int .i64 a2_1) ∧ w'.cell? ⟨gb493, 2, none⟩ = some (.int .i64 a2_2) ∧ w'.cell? (ad500.add ((x9_3).toNat * 5)) = some (.string ((rd_T47 l1 x9_3).f0)) ∧ w'.cell? ⟨(ad500.add ((x9_3).toNat * 5)).block, (ad500.add ((x9_3).toNat * 5)).off + 1, none⟩ = some (.slice A505_1 ((rd_T47 l1 x9_3).f1).length c505_1) ∧ w'.cell? ⟨(ad500.add ((x9_3).toNat * 5)).block, (ad500.add ((x9_3).toNat * 5)).off + 2, none⟩ = some (.int .i64 ((rd_T47 l1 x9_3).f2)) ∧ w'.cell? ⟨(ad500.add ((x9_3).toNat * 5)).block, (ad500.add ((x9_3).toNat * 5)).off + 3, none⟩ = some (.int .i64 ((rd_T47 l1 x9_3).f3)) ∧ w'.cell? ⟨(ad500.add ((x9_3).toNat * 5)).block, (ad500.add ((x9_3).toNat * 5)).off + 4, none⟩ = some (.int .i64 ((rd_T47 l1 x9_3).f4))) ∧ (Kd.R k36 36 w' w.heap.size (fun k_ => some k_ ≠ (s_.2.2 : Value).ownBlock ∧ k_ ≠ gb493) s_.2.1 y506) ∧ (Kd.R k36 36 w' w.heap.size (fun k_ => some k_ ≠ (s_.2.1 : Value).ownBlock ∧ k_ ≠ gb493) s_.2.2 y509) ∧ (w'.heap[gb493]? = some (.cells #[.string a2_0, .int .i64 a2_1, .int .i64 a2_2] 36 (0, 0))) ∧ (w'.heap[gb501]? = some (.cells #[.string ((rd_T47 l1 x9_3).f0), .slice A500_1 ((rd_T47 l1 x9_3).f1).length c500_1, .int .i64 ((rd_T47 l1 x9_3).f2), .int .i64 ((rd_T47 l1 x9_3).f3), .int .i64 ((rd_T47 l1 x9_3).f4)] 47 (0, 0))) ∧ (Below w.heap.size w w')) ?_ ?_
                 rotate_left
                 ·intro hCont
                  refine two_ (i := 0) (j := 8) (Ni := some 61) (Nj := some 69) #[true, true, true, true, true, true, false, true, false, false, false, false] #[false, true, true, true, true, true, false, true, true, false, false, false] rfl rfl rfl rfl (two_of HT_.out (by kernel_rfl)) (by decide) (by decide) (fun K hK => ?_) (fun K hK => ?_)
                  ·skip
                   refine Kd.R_lit_step k36 _ 36 ?hg (N := 61) ?hd (xs := ([] : List (S36))) (inner := []) (ok := fun _ => True) (okp := fun _ => True) ?hr ?hp (fun _ hk => hk) trivial (Below.refl _ _) (Nat.le_refl _) (by simp) ?_; (case hd => rfl); (case hg => rfl); (case hr => first | (go_simp; done) | (go_simp; rfl)); (case hp => exact (Reps.none _ _))
                   intro v503 w62 ho63 hb hg_ hnew_
                   clear hg_ hnew_
                   (first | rw [← Ny502.out] at ho63 | (simp only [Int.reduceToNat] at ho63; rw [← Ny502.out] at ho63))
                   have n0_ := Aside0.mk (Kd.R_lower (Kd.R_newB ho63 (g := gb493) (o := .cells #[.string a2_0, .int .i64 a2_1, .int .i64 a2_2] 36 (0, 0)) (by (with_reducible repeat (first | refine blk_drewN ?_ _ | refine blk_drew ?_ | refine blk_alloc ?_ _)); exact BK493.out)) (below_size (by repeat (first | (with_reducible first | exact HB.out | apply below_alloc | apply pw_below_drewN | apply below_drew1 | refine below_set ?_ GE493.out | refine below_set ?_ GE501.out) | exact HB.out))))
                   have n1_ := Aside0.mk (blk_below (g := gb493) (o := .cells #[.string a2_0, .int .i64 a2_1, .int .i64 a2_2] 36 (0, 0)) (by (with_reducible repeat (first | refine blk_drewN ?_ _ | refine blk_drew ?_ | refine blk_alloc ?_ _)); exact BK493.out) hb)
                   have n2_ := Aside0.mk (blk_below (g := gb501) (o := .cells #[.string ((rd_T47 l1 x9_3).f0), .slice A500_1 ((rd_T47 l1 x9_3).f1).length c500_1, .int .i64 ((rd_T47 l1 x9_3).f2), .int .i64 ((rd_T47 l1 x9_3).f3), .int .i64 ((rd_T47 l1 x9_3).f4)] 47 (0, 0)) (by (with_reducible repeat (first | refine blk_drewN ?_ _ | refine blk_drew ?_ | refine blk_alloc ?_ _)); exact BK501.out) hb)
                   have n3_ := Aside0.mk (below_step (by repeat (first | (with_reducible first | exact HB.out | apply below_alloc | apply pw_below_drewN | apply below_drew1 | refine below_set ?_ GE493.out | refine below_set ?_ GE501.out) | exact HB.out)) hb)
                   clear BK493
                   clear BK501
                   clear HB
                   have HO504 := n0_
                   have BK493 := n1_
                   have BK501 := n2_
                   have HB := n3_
                   clear n0_ n1_ n2_ n3_
                   clear hb ho63
                   refine hK.out _ _ ⟨(blk_cell BK493.out 0).trans rfl, (blk_cell BK493.out 1).trans rfl, (blk_cell BK493.out 2).trans rfl, ((HB.out.cell (World.block_lt_of_cell? w _ hw505_0)).trans hw505_0), ((HB.out.cell (World.block_lt_of_cell? w _ hw505_1)).trans hw505_1), ((HB.out.cell (World.block_lt_of_cell? w _ hw505_2)).trans hw505_2), ((HB.out.cell (World.block_lt_of_cell? w _ hw505_3)).trans hw505_3), ((HB.out.cell (World.block_lt_of_cell? w _ hw505_4)).trans hw505_4)⟩ (fun hHeld => ?_)
                   clear hK K
                   refine norm_ (a' := ?_) ?_ ?_
                   rotate_left
                   ·show Act.put _ (some 61) _ = _
                    simp only [Act.put, List.setIfInBounds_toArray, List.set_cons_zero, List.set_cons_succ, i64_w, i32_w]
                    rfl
                   refine two_ (i := 6) (j := 8) (Ni := some 67) (Nj := some 69) #[true, true, true, true, true, true, true, true, false, false, false, false] #[true, true, true, true, true, true, false, true, true, false, false, false] rfl rfl rfl rfl (two_of HT_.out (by kernel_rfl)) (by decide) (by decide) (fun K hK => ?_) (fun K hK => ?_)
                   ·skip
                    refine Kd.R_append_rows_step k36 (w0 := w) w.heap.size (by rfl) (.tmp 61) (.tmp 66) 45 36 (.agg #[(.string ⟨#[]⟩), (.int .i64 0), (.int .i64 0)]) 32 rfl Try.underlying45 info36 rfl (by decide) (by omega) v503 y502 ((rd_T47 l1 x9_3).f1) _ _ _ (fun k_ => k_ ≠ gb493) (fun _ => False) rfl rfl ?aO ?aR (fun _ _ h => h) (fun _ h => h.elim) ?aF ?aB ?aS ?aL ?_
                    (case aR => repeat (first | exact (Kd.C_below HR505_1.out HB.out) | (with_reducible refine Kd.C_alloc ?_ _) | (with_reducible refine Kd.C_drewN ?_ _) | (with_reducible refine Kd.C_drew ?_)))
                    (case aB => exact (by repeat (first | (with_reducible first | exact HB.out | apply below_alloc | apply pw_below_drewN | apply below_drew1 | refine below_set ?_ GE493.out | refine below_set ?_ GE501.out) | exact HB.out)))
                    (case aF => exact (fun k_ hk => Kd.freshB (g := gb493) (o := .cells #[.string a2_0, .int .i64 a2_1, .int .i64 a2_2] 36 (0, 0)) (by (with_reducible repeat (first | refine blk_drewN ?_ _ | refine blk_drew ?_ | refine blk_alloc ?_ _)); exact BK493.out) k_ hk))
                    (case aO => exact (by (with_reducible repeat (first | apply Kd.R_alloc | apply Kd.R_drewN | apply Kd.R_drew)); exact Kd.R_mono HO504.out (fun _ hk => hk.2)))
                    (case aS => exact (below_size (by repeat (first | (with_reducible first | exact HB.out | apply below_alloc | apply pw_below_drewN | apply below_drew1 | refine below_set ?_ GE493.out | refine below_set ?_ GE501.out) | exact HB.out))))
                    (case aL => have := LMc30.out; omega)
                    intro v507 w64 ho hb hg hat
                    rw [← Ny506.out] at ho
                    have n0_ := Aside0.mk (blk_grown (g := gb493) (o := .cells #[.string a2_0, .int .i64 a2_1, .int .i64 a2_2] 36 (0, 0)) (by (with_reducible repeat (first | refine blk_drewN ?_ _ | refine blk_drew ?_ | refine blk_alloc ?_ _)); exact BK493.out) hg (Kd.R_away HO504.out (fun _ hk => hk.2)))
                    have n1_ := Aside0.mk (blk_grown (g := gb501) (o := .cells #[.string ((rd_T47 l1 x9_3).f0), .slice A500_1 ((rd_T47 l1 x9_3).f1).length c500_1, .int .i64 ((rd_T47 l1 x9_3).f2), .int .i64 ((rd_T47 l1 x9_3).f3), .int .i64 ((rd_T47 l1 x9_3).f4)] 47 (0, 0)) (by (with_reducible repeat (first | refine blk_drewN ?_ _ | refine blk_drew ?_ | refine blk_alloc ?_ _)); exact BK501.out) hg (Kd.R_ne HO504.out BK501.out (by decide)))
                    have n2_ := Aside0.mk (hb)
                    have n3_ := Aside0.mk (ho)
                    clear BK493
                    clear BK501
                    clear HB
                    clear HO504
                    have BK493 := n0_
                    have BK501 := n1_
                    have HB := n2_
                    have HO508 := n3_
                    clear n0_ n1_ n2_ n3_
                    clear ho hb hg hat
                    refine hK.out _ _ ⟨(blk_cell BK493.out 0).trans rfl, (blk_cell BK493.out 1).trans rfl, (blk_cell BK493.out 2).trans rfl, ((HB.out.cell (World.block_lt_of_cell? w _ hw505_0)).trans hw505_0), ((HB.out.cell (World.block_lt_of_cell? w _ hw505_1)).trans hw505_1), ((HB.out.cell (World.block_lt_of_cell? w _ hw505_2)).trans hw505_2), ((HB.out.cell (World.block_lt_of_cell? w _ hw505_3)).trans hw505_3), ((HB.out.cell (World.block_lt_of_cell? w _ hw505_4)).trans hw505_4)⟩ (fun hHeld => ?_)
                    clear hK K
                    refine norm_ (a' := ?_) ?_ ?_
                    rotate_left
                    ·show Act.put _ (some 67) _ = _
                     simp only [Act.put, List.setIfInBounds_toArray, List.set_cons_zero, List.set_cons_succ, i64_w, i32_w]
                     rfl
                    refine one_ (i := 8) (N := some 69) #[true, true, true, true, true, true, true, true, true, false, false, false] rfl rfl (one_of HT_.out (by kernel_rfl)) (by decide) (fun K hK => ?_)
                    refine Kd.R_lit_step k36 _ 36 ?hg (N := 69) ?hd (xs := ([(⟨a2_0, a2_1, a2_2⟩ : S36)] : List (S36))) (inner := [.string a2_0, .int .i64 a2_1, .int .i64 a2_2]) (ok := fun _ => True) (okp := fun _ => True) ?hr ?hp (fun _ hk => hk) trivial (Below.refl _ _) (Nat.le_refl _) (by simp) ?_; (case hd => rfl); (case hg => rfl); (case hr => first | (go_simp; done) | (go_simp; rfl)); (case hp => exact (Reps.c3 (show Kd.M k36 _ _ _ (⟨a2_0, a2_1, a2_2⟩ : S36) [.string a2_0, .int .i64 a2_1, .int .i64 a2_2] from (k36_mkM _ _ _ (⟨a2_0, a2_1, a2_2⟩ : S36) )) (Reps.none _ _)))
                    intro v510 w65 ho66 hb hg_ hnew_
                    clear hg_ hnew_
                    (first | rw [← Ny509.out] at ho66 | (simp only [Int.reduceToNat] at ho66; rw [← Ny509.out] at ho66))
                    have n0_ := Aside0.mk (Kd.R_elder' (by (with_reducible repeat (first | apply Kd.R_alloc | apply Kd.R_drewN | apply Kd.R_drew)); exact HO508.out) (Kd.R_base ho66) hb)
                    have n1_ := Aside0.mk (Kd.R_lower (Kd.R_newB (Kd.R_new' ho66 (Kd.R_lt (by (with_reducible repeat (first | apply Kd.R_alloc | apply Kd.R_drewN | apply Kd.R_drew)); exact HO508.out))) (g := gb493) (o := .cells #[.string a2_0, .int .i64 a2_1, .int .i64 a2_2] 36 (0, 0)) (by (with_reducible repeat (first | refine blk_drewN ?_ _ | refine blk_drew ?_ | refine blk_alloc ?_ _)); exact BK493.out)) (below_size (by repeat (first | (with_reducible first | exact HB.out | apply below_alloc | apply pw_below_drewN | apply below_drew1 | refine below_set ?_ GE493.out | refine below_set ?_ GE501.out) | exact HB.out))))
                    have n2_ := Aside0.mk (blk_below (g := gb493) (o := .cells #[.string a2_0, .int .i64 a2_1, .int .i64 a2_2] 36 (0, 0)) (by (with_reducible repeat (first | refine blk_drewN ?_ _ | refine blk_drew ?_ | refine blk_alloc ?_ _)); exact BK493.out) hb)
                    have n3_ := Aside0.mk (blk_below (g := gb501) (o := .cells #[.string ((rd_T47 l1 x9_3).f0), .slice A500_1 ((rd_T47 l1 x9_3).f1).length c500_1, .int .i64 ((rd_T47 l1 x9_3).f2), .int .i64 ((rd_T47 l1 x9_3).f3), .int .i64 ((rd_T47 l1 x9_3).f4)] 47 (0, 0)) (by (with_reducible repeat (first | refine blk_drewN ?_ _ | refine blk_drew ?_ | refine blk_alloc ?_ _)); exact BK501.out) hb)
                    have n4_ := Aside0.mk (below_step (by repeat (first | (with_reducible first | exact HB.out | apply below_alloc | apply pw_below_drewN | apply below_drew1 | refine below_set ?_ GE493.out | refine below_set ?_ GE501.out) | exact HB.out)) hb)
                    clear HO508
                    clear BK493
                    clear BK501
                    clear HB
                    have HO508 := n0_
                    have HO511 := n1_
                    have BK493 := n2_
                    have BK501 := n3_
                    have HB := n4_
                    clear n0_ n1_ n2_ n3_ n4_
                    clear hb ho66
                    refine hK.out _ _ ⟨(blk_cell BK493.out 0).trans rfl, (blk_cell BK493.out 1).trans rfl, (blk_cell BK493.out 2).trans rfl, ((HB.out.cell (World.block_lt_of_cell? w _ hw505_0)).trans hw505_0), ((HB.out.cell (World.block_lt_of_cell? w _ hw505_1)).trans hw505_1), ((HB.out.cell (World.block_lt_of_cell? w _ hw505_2)).trans hw505_2), ((HB.out.cell (World.block_lt_of_cell? w _ hw505_3)).trans hw505_3), ((HB.out.cell (World.block_lt_of_cell? w _ hw505_4)).trans hw505_4)⟩ (fun hHeld => ?_)
                    clear hK K
                    refine norm_ (a' := ?_) ?_ ?_
                    rotate_left
                    ·show Act.put _ (some 69) _ = _
                     simp only [Act.put, List.setIfInBounds_toArray, List.set_cons_zero, List.set_cons_succ, i64_w, i32_w]
                     rfl
                    exact norm_ (by simp only [putAll, Act.put, List.setIfInBounds_toArray, List.set_cons_zero, List.set_cons_succ]) (hCont (v503, v507, v510) _ ⟨hHeld, (by (with_reducible repeat (first | apply Kd.R_alloc | apply Kd.R_drewN | apply Kd.R_drew)); exact Kd.R_mono HO508.out (fun _ hk => ⟨hk.2, hk.1⟩)), (by (with_reducible repeat (first | apply Kd.R_alloc | apply Kd.R_drewN | apply Kd.R_drew)); exact Kd.R_mono HO511.out (fun _ hk => ⟨hk.1.2, hk.2⟩)), (by (with_reducible repeat (first | refine blk_drewN ?_ _ | refine blk_drew ?_ | refine blk_alloc ?_ _)); exact BK493.out), (by (with_reducible repeat (first | refine blk_drewN ?_ _ | refine blk_drew ?_ | refine blk_alloc ?_ _)); exact BK501.out), (by repeat (first | (with_reducible first | exact HB.out | apply below_alloc | apply pw_below_drewN | apply below_drew1 | refine below_set ?_ GE493.out | refine below_set ?_ GE501.out) | exact HB.out))⟩)
                   ·skip
                    refine Kd.R_lit_step k36 _ 36 ?hg (N := 69) ?hd (xs := ([(⟨a2_0, a2_1, a2_2⟩ : S36)] : List (S36))) (inner := [.string a2_0, .int .i64 a2_1, .int .i64 a2_2]) (ok := fun _ => True) (okp := fun _ => True) ?hr ?hp (fun _ hk => hk) trivial (Below.refl _ _) (Nat.le_refl _) (by simp) ?_; (case hd => rfl); (case hg => rfl); (case hr => first | (go_simp; done) | (go_simp; rfl)); (case hp => exact (Reps.c3 (show Kd.M k36 _ _ _ (⟨a2_0, a2_1, a2_2⟩ : S36) [.string a2_0, .int .i64 a2_1, .int .i64 a2_2] from (k36_mkM _ _ _ (⟨a2_0, a2_1, a2_2⟩ : S36) )) (Reps.none _ _)))
                    intro v510 w64 ho65 hb hg_ hnew_
                    clear hg_ hnew_
                    (first | rw [← Ny509.out] at ho65 | (simp only [Int.reduceToNat] at ho65; rw [← Ny509.out] at ho65))
                    have n0_ := Aside0.mk (Kd.R_elder' (by (with_reducible repeat (first | apply Kd.R_alloc | apply Kd.R_drewN | apply Kd.R_drew)); exact HO504.out) (Kd.R_base ho65) hb)
                    have n1_ := Aside0.mk (Kd.R_lower (Kd.R_newB (Kd.R_new' ho65 (Kd.R_lt (by (with_reducible repeat (first | apply Kd.R_alloc | apply Kd.R_drewN | apply Kd.R_drew)); exact HO504.out))) (g := gb493) (o := .cells #[.string a2_0, .int .i64 a2_1, .int .i64 a2_2] 36 (0, 0)) (by (with_reducible repeat (first | refine blk_drewN ?_ _ | refine blk_drew ?_ | refine blk_alloc ?_ _)); exact BK493.out)) (below_size (by repeat (first | (with_reducible first | exact HB.out | apply below_alloc | apply pw_below_drewN | apply below_drew1 | refine below_set ?_ GE493.out | refine below_set ?_ GE501.out) | exact HB.out))))
                    have n2_ := Aside0.mk (blk_below (g := gb493) (o := .cells #[.string a2_0, .int .i64 a2_1, .int .i64 a2_2] 36 (0, 0)) (by (with_reducible repeat (first | refine blk_drewN ?_ _ | refine blk_drew ?_ | refine blk_alloc ?_ _)); exact BK493.out) hb)
                    have n3_ := Aside0.mk (blk_below (g := gb501) (o := .cells #[.string ((rd_T47 l1 x9_3).f0), .slice A500_1 ((rd_T47 l1 x9_3).f1).length c500_1, .int .i64 ((rd_T47 l1 x9_3).f2), .int .i64 ((rd_T47 l1 x9_3).f3), .int .i64 ((rd_T47 l1 x9_3).f4)] 47 (0, 0)) (by (with_reducible repeat (first | refine blk_drewN ?_ _ | refine blk_drew ?_ | refine blk_alloc ?_ _)); exact BK501.out) hb)
                    have n4_ := Aside0.mk (below_step (by repeat (first | (with_reducible first | exact HB.out | apply below_alloc | apply pw_below_drewN | apply below_drew1 | refine below_set ?_ GE493.out | refine below_set ?_ GE501.out) | exact HB.out)) hb)
                    clear HO504
                    clear BK493
                    clear BK501
                    clear HB
                    have HO504 := n0_
                    have HO511 := n1_
                    have BK493 := n2_
                    have BK501 := n3_
                    have HB := n4_
                    clear n0_ n1_ n2_ n3_ n4_
                    clear hb ho65
                    refine hK.out _ _ ⟨(blk_cell BK493.out 0).trans rfl, (blk_cell BK493.out 1).trans rfl, (blk_cell BK493.out 2).trans rfl, ((HB.out.cell (World.block_lt_of_cell? w _ hw505_0)).trans hw505_0), ((HB.out.cell (World.block_lt_of_cell? w _ hw505_1)).trans hw505_1), ((HB.out.cell (World.block_lt_of_cell? w _ hw505_2)).trans hw505_2), ((HB.out.cell (World.block_lt_of_cell? w _ hw505_3)).trans hw505_3), ((HB.out.cell (World.block_lt_of_cell? w _ hw505_4)).trans hw505_4)⟩ (fun hHeld => ?_)
                    clear hK K
                    refine norm_ (a' := ?_) ?_ ?_
                    rotate_left
                    ·show Act.put _ (some 69) _ = _
                     simp only [Act.put, List.setIfInBounds_toArray, List.set_cons_zero, List.set_cons_succ, i64_w, i32_w]
                     rfl
                    refine one_ (i := 6) (N := some 67) #[true, true, true, true, true, true, true, true, true, false, false, false] rfl rfl (one_of HT_.out (by kernel_rfl)) (by decide) (fun K hK => ?_)
                    refine Kd.R_append_rows_step k36 (w0 := w) w.heap.size (by rfl) (.tmp 61) (.tmp 66) 45 36 (.agg #[(.string ⟨#[]⟩), (.int .i64 0), (.int .i64 0)]) 32 rfl Try.underlying45 info36 rfl (by decide) (by omega) v503 y502 ((rd_T47 l1 x9_3).f1) _ _ _ (fun k_ => some k_ ≠ (v510 : Value).ownBlock ∧ k_ ≠ gb493) (fun _ => False) rfl rfl ?aO ?aR (fun _ _ h => h) (fun _ h => h.elim) ?aF ?aB ?aS ?aL ?_
                    (case aR => repeat (first | exact (Kd.C_below HR505_1.out HB.out) | (with_reducible refine Kd.C_alloc ?_ _) | (with_reducible refine Kd.C_drewN ?_ _) | (with_reducible refine Kd.C_drew ?_)))
                    (case aB => exact (by repeat (first | (with_reducible first | exact HB.out | apply below_alloc | apply pw_below_drewN | apply below_drew1 | refine below_set ?_ GE493.out | refine below_set ?_ GE501.out) | exact HB.out)))
                    (case aF => exact (fun k_ hk => ⟨Kd.fresh' (Kd.R_lt (by (with_reducible repeat (first | apply Kd.R_alloc | apply Kd.R_drewN | apply Kd.R_drew)); exact HO511.out)) k_ hk, Kd.freshB (g := gb493) (o := .cells #[.string a2_0, .int .i64 a2_1, .int .i64 a2_2] 36 (0, 0)) (by (with_reducible repeat (first | refine blk_drewN ?_ _ | refine blk_drew ?_ | refine blk_alloc ?_ _)); exact BK493.out) k_ hk⟩))
                    (case aO => exact (by (with_reducible repeat (first | apply Kd.R_alloc | apply Kd.R_drewN | apply Kd.R_drew)); exact Kd.R_mono HO504.out (fun _ hk => ⟨hk.2, hk.1.2⟩)))
                    (case aS => exact (below_size (by repeat (first | (with_reducible first | exact HB.out | apply below_alloc | apply pw_below_drewN | apply below_drew1 | refine below_set ?_ GE493.out | refine below_set ?_ GE501.out) | exact HB.out))))
                    (case aL => have := LMc30.out; omega)
                    intro v507 w66 ho hb hg hat
                    rw [← Ny506.out] at ho
                    have n0_ := Aside0.mk (blk_grown (g := gb493) (o := .cells #[.string a2_0, .int .i64 a2_1, .int .i64 a2_2] 36 (0, 0)) (by (with_reducible repeat (first | refine blk_drewN ?_ _ | refine blk_drew ?_ | refine blk_alloc ?_ _)); exact BK493.out) hg (Kd.R_away HO504.out (fun _ hk => hk.1.2)))
                    have n1_ := Aside0.mk (blk_grown (g := gb501) (o := .cells #[.string ((rd_T47 l1 x9_3).f0), .slice A500_1 ((rd_T47 l1 x9_3).f1).length c500_1, .int .i64 ((rd_T47 l1 x9_3).f2), .int .i64 ((rd_T47 l1 x9_3).f3), .int .i64 ((rd_T47 l1 x9_3).f4)] 47 (0, 0)) (by (with_reducible repeat (first | refine blk_drewN ?_ _ | refine blk_drew ?_ | refine blk_alloc ?_ _)); exact BK501.out) hg (Kd.R_ne HO504.out BK501.out (by decide)))
                    have n2_ := Aside0.mk (Kd.R_after (ok := (fun k_ => k_ ≠ gb493)) (by (with_reducible repeat (first | apply Kd.R_alloc | apply Kd.R_drewN | apply Kd.R_drew)); exact Kd.R_mono HO511.out (fun _ hk => ⟨hk.2, hk.1.2⟩)) hg hat)
                    have n3_ := Aside0.mk (hb)
                    have n4_ := Aside0.mk (ho)
                    clear BK493
                    clear BK501
                    clear HO511
                    clear HB
                    clear HO504
                    have BK493 := n0_
                    have BK501 := n1_
                    have HO511 := n2_
                    have HB := n3_
                    have HO508 := n4_
                    clear n0_ n1_ n2_ n3_ n4_
                    clear ho hb hg hat
                    refine hK.out _ _ ⟨(blk_cell BK493.out 0).trans rfl, (blk_cell BK493.out 1).trans rfl, (blk_cell BK493.out 2).trans rfl, ((HB.out.cell (World.block_lt_of_cell? w _ hw505_0)).trans hw505_0), ((HB.out.cell (World.block_lt_of_cell? w _ hw505_1)).trans hw505_1), ((HB.out.cell (World.block_lt_of_cell? w _ hw505_2)).trans hw505_2), ((HB.out.cell (World.block_lt_of_cell? w _ hw505_3)).trans hw505_3), ((HB.out.cell (World.block_lt_of_cell? w _ hw505_4)).trans hw505_4)⟩ (fun hHeld => ?_)
                    clear hK K
                    refine norm_ (a' := ?_) ?_ ?_
                    rotate_left
                    ·show Act.put _ (some 67) _ = _
                     simp only [Act.put, List.setIfInBounds_toArray, List.set_cons_zero, List.set_cons_succ, i64_w, i32_w]
                     rfl
                    exact norm_ (by simp only [putAll, Act.put, List.setIfInBounds_toArray, List.set_cons_zero, List.set_cons_succ]) (hCont (v503, v507, v510) _ ⟨hHeld, (by (with_reducible repeat (first | apply Kd.R_alloc | apply Kd.R_drewN | apply Kd.R_drew)); exact HO508.out), (by (with_reducible repeat (first | apply Kd.R_alloc | apply Kd.R_drewN | apply Kd.R_drew)); exact Kd.R_mono HO511.out (fun _ hk => ⟨hk.2, hk.1⟩)), (by (with_reducible repeat (first | refine blk_drewN ?_ _ | refine blk_drew ?_ | refine blk_alloc ?_ _)); exact BK493.out), (by (with_reducible repeat (first | refine blk_drewN ?_ _ | refine blk_drew ?_ | refine blk_alloc ?_ _)); exact BK501.out), (by repeat (first | (with_reducible first | exact HB.out | apply below_alloc | apply pw_below_drewN | apply below_drew1 | refine below_set ?_ GE493.out | refine below_set ?_ GE501.out) | exact HB.out))⟩)
                  ·skip
                   refine Kd.R_lit_step k36 _ 36 ?hg (N := 69) ?hd (xs := ([(⟨a2_0, a2_1, a2_2⟩ : S36)] : List (S36))) (inner := [.string a2_0, .int .i64 a2_1, .int .i64 a2_2]) (ok := fun _ => True) (okp := fun _ => True) ?hr ?hp (fun _ hk => hk) trivial (Below.refl _ _) (Nat.le_refl _) (by simp) ?_; (case hd => rfl); (case hg => rfl); (case hr => first | (go_simp; done) | (go_simp; rfl)); (case hp => exact (Reps.c3 (show Kd.M k36 _ _ _ (⟨a2_0, a2_1, a2_2⟩ : S36) [.string a2_0, .int .i64 a2_1, .int .i64 a2_2] from (k36_mkM _ _ _ (⟨a2_0, a2_1, a2_2⟩ : S36) )) (Reps.none _ _)))
                   intro v510 w62 ho63 hb hg_ hnew_
                   clear hg_ hnew_
                   (first | rw [← Ny509.out] at ho63 | (simp only [Int.reduceToNat] at ho63; rw [← Ny509.out] at ho63))
                   have n0_ := Aside0.mk (Kd.R_lower (Kd.R_newB ho63 (g := gb493) (o := .cells #[.string a2_0, .int .i64 a2_1, .int .i64 a2_2] 36 (0, 0)) (by (with_reducible repeat (first | refine blk_drewN ?_ _ | refine blk_drew ?_ | refine blk_alloc ?_ _)); exact BK493.out)) (below_size (by repeat (first | (with_reducible first | exact HB.out | apply below_alloc | apply pw_below_drewN | apply below_drew1 | refine below_set ?_ GE493.out | refine below_set ?_ GE501.out) | exact HB.out))))
                   have n1_ := Aside0.mk (blk_below (g := gb493) (o := .cells #[.string a2_0, .int .i64 a2_1, .int .i64 a2_2] 36 (0, 0)) (by (with_reducible repeat (first | refine blk_drewN ?_ _ | refine blk_drew ?_ | refine blk_alloc ?_ _)); exact BK493.out) hb)
                   have n2_ := Aside0.mk (blk_below (g := gb501) (o := .cells #[.string ((rd_T47 l1 x9_3).f0), .slice A500_1 ((rd_T47 l1 x9_3).f1).length c500_1, .int .i64 ((rd_T47 l1 x9_3).f2), .int .i64 ((rd_T47 l1 x9_3).f3), .int .i64 ((rd_T47 l1 x9_3).f4)] 47 (0, 0)) (by (with_reducible repeat (first | refine blk_drewN ?_ _ | refine blk_drew ?_ | refine blk_alloc ?_ _)); exact BK501.out) hb)
                   have n3_ := Aside0.mk (below_step (by repeat (first | (with_reducible first | exact HB.out | apply below_alloc | apply pw_below_drewN | apply below_drew1 | refine below_set ?_ GE493.out | refine below_set ?_ GE501.out) | exact HB.out)) hb)
                   clear BK493
                   clear BK501
                   clear HB
                   have HO511 := n0_
                   have BK493 := n1_
                   have BK501 := n2_
                   have HB := n3_
                   clear n0_ n1_ n2_ n3_
                   clear hb ho63
                   refine hK.out _ _ ⟨(blk_cell BK493.out 0).trans rfl, (blk_cell BK493.out 1).trans rfl, (blk_cell BK493.out 2).trans rfl, ((HB.out.cell (World.block_lt_of_cell? w _ hw505_0)).trans hw505_0), ((HB.out.cell (World.block_lt_of_cell? w _ hw505_1)).trans hw505_1), ((HB.out.cell (World.block_lt_of_cell? w _ hw505_2)).trans hw505_2), ((HB.out.cell (World.block_lt_of_cell? w _ hw505_3)).trans hw505_3), ((HB.out.cell (World.block_lt_of_cell? w _ hw505_4)).trans hw505_4)⟩ (fun hHeld => ?_)
                   clear hK K
                   refine norm_ (a' := ?_) ?_ ?_
                   rotate_left
                   ·show Act.put _ (some 69) _ = _
                    simp only [Act.put, List.setIfInBounds_toArray, List.set_cons_zero, List.set_cons_succ, i64_w, i32_w]
                    rfl
                   refine one_ (i := 0) (N := some 61) #[true, true, true, true, true, true, false, true, true, false, false, false] rfl rfl (one_of HT_.out (by kernel_rfl)) (by decide) (fun K hK => ?_)
                   refine Kd.R_lit_step k36 _ 36 ?hg (N := 61) ?hd (xs := ([] : List (S36))) (inner := []) (ok := fun _ => True) (okp := fun _ => True) ?hr ?hp (fun _ hk => hk) trivial (Below.refl _ _) (Nat.le_refl _) (by simp) ?_; (case hd => rfl); (case hg => rfl); (case hr => first | (go_simp; done) | (go_simp; rfl)); (case hp => exact (Reps.none _ _))
                   intro v503 w64 ho65 hb hg_ hnew_
                   clear hg_ hnew_
                   (first | rw [← Ny502.out] at ho65 | (simp only [Int.reduceToNat] at ho65; rw [← Ny502.out] at ho65))
                   have n0_ := Aside0.mk (Kd.R_elder' (by (with_reducible repeat (first | apply Kd.R_alloc | apply Kd.R_drewN | apply Kd.R_drew)); exact HO511.out) (Kd.R_base ho65) hb)
                   have n1_ := Aside0.mk (Kd.R_lower (Kd.R_newB (Kd.R_new' ho65 (Kd.R_lt (by (with_reducible repeat (first | apply Kd.R_alloc | apply Kd.R_drewN | apply Kd.R_drew)); exact HO511.out))) (g := gb493) (o := .cells #[.string a2_0, .int .i64 a2_1, .int .i64 a2_2] 36 (0, 0)) (by (with_reducible repeat (first | refine blk_drewN ?_ _ | refine blk_drew ?_ | refine blk_alloc ?_ _)); exact BK493.out)) (below_size (by repeat (first | (with_reducible first | exact HB.out | apply below_alloc | apply pw_below_drewN | apply below_drew1 | refine below_set ?_ GE493.out | refine below_set ?_ GE501.out) | exact HB.out))))
                   have n2_ := Aside0.mk (blk_below (g := gb493) (o := .cells #[.string a2_0, .int .i64 a2_1, .int .i64 a2_2] 36 (0, 0)) (by (with_reducible repeat (first | refine blk_drewN ?_ _ | refine blk_drew ?_ | refine blk_alloc ?_ _)); exact BK493.out) hb)
                   have n3_ := Aside0.mk (blk_below (g := gb501) (o := .cells #[.string ((rd_T47 l1 x9_3).f0), .slice A500_1 ((rd_T47 l1 x9_3).f1).length c500_1, .int .i64 ((rd_T47 l1 x9_3).f2), .int .i64 ((rd_T47 l1 x9_3).f3), .int .i64 ((rd_T47 l1 x9_3).f4)] 47 (0, 0)) (by (with_reducible repeat (first | refine blk_drewN ?_ _ | refine blk_drew ?_ | refine blk_alloc ?_ _)); exact BK501.out) hb)
                   have n4_ := Aside0.mk (below_step (by repeat (first | (with_reducible first | exact HB.out | apply below_alloc | apply pw_below_drewN | apply below_drew1 | refine below_set ?_ GE493.out | refine below_set ?_ GE501.out) | exact HB.out)) hb)
                   clear HO511
                   clear BK493
                   clear BK501
                   clear HB
                   have HO511 := n0_
                   have HO504 := n1_
                   have BK493 := n2_
                   have BK501 := n3_
                   have HB := n4_
                   clear n0_ n1_ n2_ n3_ n4_
                   clear hb ho65
                   refine hK.out _ _ ⟨(blk_cell BK493.out 0).trans rfl, (blk_cell BK493.out 1).trans rfl, (blk_cell BK493.out 2).trans rfl, ((HB.out.cell (World.block_lt_of_cell? w _ hw505_0)).trans hw505_0), ((HB.out.cell (World.block_lt_of_cell? w _ hw505_1)).trans hw505_1), ((HB.out.cell (World.block_lt_of_cell? w _ hw505_2)).trans hw505_2), ((HB.out.cell (World.block_lt_of_cell? w _ hw505_3)).trans hw505_3), ((HB.out.cell (World.block_lt_of_cell? w _ hw505_4)).trans hw505_4)⟩ (fun hHeld => ?_)
                   clear hK K
                   refine norm_ (a' := ?_) ?_ ?_
                   rotate_left
                   ·show Act.put _ (some 61) _ = _
                    simp only [Act.put, List.setIfInBounds_toArray, List.set_cons_zero, List.set_cons_succ, i64_w, i32_w]
                    rfl
                   refine one_ (i := 6) (N := some 67) #[true, true, true, true, true, true, true, true, true, false, false, false] rfl rfl (one_of HT_.out (by kernel_rfl)) (by decide) (fun K hK => ?_)
                   refine Kd.R_append_rows_step k36 (w0 := w) w.heap.size (by rfl) (.tmp 61) (.tmp 66) 45 36 (.agg #[(.string ⟨#[]⟩), (.int .i64 0), (.int .i64 0)]) 32 rfl Try.underlying45 info36 rfl (by decide) (by omega) v503 y502 ((rd_T47 l1 x9_3).f1) _ _ _ (fun k_ => some k_ ≠ (v510 : Value).ownBlock ∧ k_ ≠ gb493) (fun _ => False) rfl rfl ?aO ?aR (fun _ _ h => h) (fun _ h => h.elim) ?aF ?aB ?aS ?aL ?_
                   (case aR => repeat (first | exact (Kd.C_below HR505_1.out HB.out) | (with_reducible refine Kd.C_alloc ?_ _) | (with_reducible refine Kd.C_drewN ?_ _) | (with_reducible refine Kd.C_drew ?_)))
                   (case aB => exact (by repeat (first | (with_reducible first | exact HB.out | apply below_alloc | apply pw_below_drewN | apply below_drew1 | refine below_set ?_ GE493.out | refine below_set ?_ GE501.out) | exact HB.out)))
                   (case aF => exact (fun k_ hk => ⟨Kd.fresh' (Kd.R_lt (by (with_reducible repeat (first | apply Kd.R_alloc | apply Kd.R_drewN | apply Kd.R_drew)); exact HO511.out)) k_ hk, Kd.freshB (g := gb493) (o := .cells #[.string a2_0, .int .i64 a2_1, .int .i64 a2_2] 36 (0, 0)) (by (with_reducible repeat (first | refine blk_drewN ?_ _ | refine blk_drew ?_ | refine blk_alloc ?_ _)); exact BK493.out) k_ hk⟩))
                   (case aO => exact (by (with_reducible repeat (first | apply Kd.R_alloc | apply Kd.R_drewN | apply Kd.R_drew)); exact Kd.R_mono HO504.out (fun _ hk => ⟨hk.1.2, hk.2⟩)))
                   (case aS => exact (below_size (by repeat (first | (with_reducible first | exact HB.out | apply below_alloc | apply pw_below_drewN | apply below_drew1 | refine below_set ?_ GE493.out | refine below_set ?_ GE501.out) | exact HB.out))))
                   (case aL => have := LMc30.out; omega)
                   intro v507 w66 ho hb hg hat
                   rw [← Ny506.out] at ho
                   have n0_ := Aside0.mk (blk_grown (g := gb493) (o := .cells #[.string a2_0, .int .i64 a2_1, .int .i64 a2_2] 36 (0, 0)) (by (with_reducible repeat (first | refine blk_drewN ?_ _ | refine blk_drew ?_ | refine blk_alloc ?_ _)); exact BK493.out) hg (Kd.R_away HO504.out (fun _ hk => hk.2)))
                   have n1_ := Aside0.mk (blk_grown (g := gb501) (o := .cells #[.string ((rd_T47 l1 x9_3).f0), .slice A500_1 ((rd_T47 l1 x9_3).f1).length c500_1, .int .i64 ((rd_T47 l1 x9_3).f2), .int .i64 ((rd_T47 l1 x9_3).f3), .int .i64 ((rd_T47 l1 x9_3).f4)] 47 (0, 0)) (by (with_reducible repeat (first | refine blk_drewN ?_ _ | refine blk_drew ?_ | refine blk_alloc ?_ _)); exact BK501.out) hg (Kd.R_ne HO504.out BK501.out (by decide)))
                   have n2_ := Aside0.mk (Kd.R_after (ok := (fun k_ => k_ ≠ gb493)) (by (with_reducible repeat (first | apply Kd.R_alloc | apply Kd.R_drewN | apply Kd.R_drew)); exact Kd.R_mono HO511.out (fun _ hk => ⟨hk.1.2, hk.2⟩)) hg hat)
                   have n3_ := Aside0.mk (hb)
                   have n4_ := Aside0.mk (ho)
                   clear BK493
                   clear BK501
                   clear HO511
                   clear HB
                   clear HO504
                   have BK493 := n0_
                   have BK501 := n1_
                   have HO511 := n2_
                   have HB := n3_
                   have HO508 := n4_
                   clear n0_ n1_ n2_ n3_ n4_
                   clear ho hb hg hat
                   refine hK.out _ _ ⟨(blk_cell BK493.out 0).trans rfl, (blk_cell BK493.out 1).trans rfl, (blk_cell BK493.out 2).trans rfl, ((HB.out.cell (World.block_lt_of_cell? w _ hw505_0)).trans hw505_0), ((HB.out.cell (World.block_lt_of_cell? w _ hw505_1)).trans hw505_1), ((HB.out.cell (World.block_lt_of_cell? w _ hw505_2)).trans hw505_2), ((HB.out.cell (World.block_lt_of_cell? w _ hw505_3)).trans hw505_3), ((HB.out.cell (World.block_lt_of_cell? w _ hw505_4)).trans hw505_4)⟩ (fun hHeld => ?_)
                   clear hK K
                   refine norm_ (a' := ?_) ?_ ?_
                   rotate_left
                   ·show Act.put _ (some 67) _ = _
                    simp only [Act.put, List.setIfInBounds_toArray, List.set_cons_zero, List.set_cons_succ, i64_w, i32_w]
                    rfl
                   exact norm_ (by simp only [putAll, Act.put, List.setIfInBounds_toArray, List.set_cons_zero, List.set_cons_succ]) (hCont (v503, v507, v510) _ ⟨hHeld, (by (with_reducible repeat (first | apply Kd.R_alloc | apply Kd.R_drewN | apply Kd.R_drew)); exact HO508.out), (by (with_reducible repeat (first | apply Kd.R_alloc | apply Kd.R_drewN | apply Kd.R_drew)); exact Kd.R_mono HO511.out (fun _ hk => ⟨hk.2, hk.1⟩)), (by (with_reducible repeat (first | refine blk_drewN ?_ _ | refine blk_drew ?_ | refine blk_alloc ?_ _)); exact BK493.out), (by (with_reducible repeat (first | refine blk_drewN ?_ _ | refine blk_drew ?_ | refine blk_alloc ?_ _)); exact BK501.out), (by repeat (first | (with_reducible first | exact HB.out | apply below_alloc | apply pw_below_drewN | apply below_drew1 | refine below_set ?_ GE493.out | refine below_set ?_ GE501.out) | exact HB.out))⟩)
                 rintro ⟨v503, v507, v510⟩ w67 ⟨hS_, h0_, h1_, h2_, h3_, h4_⟩
                 have n0_ : Aside0 (Kd.R k36 36 w67 w.heap.size (fun k_ => some k_ ≠ (v510 : Value).ownBlock ∧ k_ ≠ gb493) v507 y506) := ⟨h0_⟩
                 have n1_ : Aside0 (Kd.R k36 36 w67 w.heap.size (fun k_ => some k_ ≠ (v507 : Value).ownBlock ∧ k_ ≠ gb493) v510 y509) := ⟨h1_⟩
                 have n2_ : Aside0 (w67.heap[gb493]? = some (.cells #[.string a2_0, .int .i64 a2_1, .int .i64 a2_2] 36 (0, 0))) := ⟨h2_⟩
                 have n3_ : Aside0 (w67.heap[gb501]? = some (.cells #[.string ((rd_T47 l1 x9_3).f0), .slice A500_1 ((rd_T47 l1 x9_3).f1).length c500_1, .int .i64 ((rd_T47 l1 x9_3).f2), .int .i64 ((rd_T47 l1 x9_3).f3), .int .i64 ((rd_T47 l1 x9_3).f4)] 47 (0, 0))) := ⟨h3_⟩
                 have n4_ : Aside0 (Below w.heap.size w w67) := ⟨h4_⟩
                 clear BK493
                 clear BK501
                 clear HB
                 clear h0_ h1_ h2_ h3_ h4_
                 have HO508 := n0_
                 have HO511 := n1_
                 have BK493 := n2_
                 have BK501 := n3_
                 have HB := n4_
                 clear n0_ n1_ n2_ n3_ n4_
                 have hHeld : w67.cell? ⟨gb493, 0, none⟩ = some (.string a2_0) ∧ w67.cell? ⟨gb493, 1, none⟩ = some (.int .i64 a2_1) ∧ w67.cell? ⟨gb493, 2, none⟩ = some (.int .i64 a2_2) ∧ w67.cell? (ad500.add ((x9_3).toNat * 5)) = some (.string ((rd_T47 l1 x9_3).f0)) ∧ w67.cell? ⟨(ad500.add ((x9_3).toNat * 5)).block, (ad500.add ((x9_3).toNat * 5)).off + 1, none⟩ = some (.slice A505_1 ((rd_T47 l1 x9_3).f1).length c505_1) ∧ w67.cell? ⟨(ad500.add ((x9_3).toNat * 5)).block, (ad500.add ((x9_3).toNat * 5)).off + 2, none⟩ = some (.int .i64 ((rd_T47 l1 x9_3).f2)) ∧ w67.cell? ⟨(ad500.add ((x9_3).toNat * 5)).block, (ad500.add ((x9_3).toNat * 5)).off + 3, none⟩ = some (.int .i64 ((rd_T47 l1 x9_3).f3)) ∧ w67.cell? ⟨(ad500.add ((x9_3).toNat * 5)).block, (ad500.add ((x9_3).toNat * 5)).off + 4, none⟩ = some (.int .i64 ((rd_T47 l1 x9_3).f4)) := hS_
                 obtain ⟨Ao69, co69, eo69⟩ := Kd.R_slice HO511.out
                 (first | subst eo69 | (injection eo69 with f1_ f2_ f3_; have f4_ := f1_.symm; have f5_ := f3_.symm; clear f1_ f2_ f3_; subst f4_; subst f5_))
                 refine norm_ (a' := ?_) ?_ ?_
                 rotate_left
                 ·simp only [putAll, Act.put, List.setIfInBounds_toArray, List.set_cons_zero, List.set_cons_succ]
                  rfl
                 refine one_ (i := 9) (N := some 70) #[true, true, true, true, true, true, true, true, true, true, false, false] rfl rfl (one_of HT_.out (by kernel_rfl)) (by decide) (fun K hK => ?_)
                 refine Kd.R_append_rows_step k36 (w0 := w) w.heap.size (by rfl) (.tmp 67) (.tmp 69) 45 36 (.agg #[(.string ⟨#[]⟩), (.int .i64 0), (.int .i64 0)]) 32 rfl Try.underlying45 info36 rfl (by decide) (by omega) v507 y506 y509 _ _ _ (fun k_ => some k_ ≠ (.slice Ao69 y509.length co69 : Value).ownBlock ∧ k_ ≠ gb493) (fun _ => False) rfl rfl ?aO ?aR (fun _ _ h => h) (fun _ h => h.elim) ?aF ?aB ?aS ?aL ?_
                 (case aR => repeat (first | exact (Kd.R_reads' HO511.out).2.2 | (with_reducible refine Kd.C_alloc ?_ _) | (with_reducible refine Kd.C_drewN ?_ _) | (with_reducible refine Kd.C_drew ?_)))
                 (case aB => exact (by repeat (first | (with_reducible first | exact HB.out | apply below_alloc | apply pw_below_drewN | apply below_drew1 | refine below_set ?_ GE493.out | refine below_set ?_ GE501.out) | exact HB.out)))
                 (case aF => exact (fun k_ hk => ⟨Kd.fresh' (Kd.R_lt (by (with_reducible repeat (first | apply Kd.R_alloc | apply Kd.R_drewN | apply Kd.R_drew)); exact HO511.out)) k_ hk, Kd.freshB (g := gb493) (o := .cells #[.string a2_0, .int .i64 a2_1, .int .i64 a2_2] 36 (0, 0)) (by (with_reducible repeat (first | refine blk_drewN ?_ _ | refine blk_drew ?_ | refine blk_alloc ?_ _)); exact BK493.out) k_ hk⟩))
                 (case aO => exact (by (with_reducible repeat (first | apply Kd.R_alloc | apply Kd.R_drewN | apply Kd.R_drew)); exact HO508.out))
                 (case aS => exact (below_size (by repeat (first | (with_reducible first | exact HB.out | apply below_alloc | apply pw_below_drewN | apply below_drew1 | refine below_set ?_ GE493.out | refine below_set ?_ GE501.out) | exact HB.out))))
                 (case aL => have := LMc31.out; omega)
                 intro v513 w68 ho hb hg hat
                 rw [← Ny512.out] at ho
                 have n0_ := Aside0.mk (blk_grown (g := gb493) (o := .cells #[.string a2_0, .int .i64 a2_1, .int .i64 a2_2] 36 (0, 0)) (by (with_reducible repeat (first | refine blk_drewN ?_ _ | refine blk_drew ?_ | refine blk_alloc ?_ _)); exact BK493.out) hg (Kd.R_away HO508.out (fun _ hk => hk.2)))
                 have n1_ := Aside0.mk (blk_grown (g := gb501) (o := .cells #[.string ((rd_T47 l1 x9_3).f0), .slice A500_1 ((rd_T47 l1 x9_3).f1).length c500_1, .int .i64 ((rd_T47 l1 x9_3).f2), .int .i64 ((rd_T47 l1 x9_3).f3), .int .i64 ((rd_T47 l1 x9_3).f4)] 47 (0, 0)) (by (with_reducible repeat (first | refine blk_drewN ?_ _ | refine blk_drew ?_ | refine blk_alloc ?_ _)); exact BK501.out) hg (Kd.R_ne HO508.out BK501.out (by decide)))
                 have n2_ := Aside0.mk (Kd.R_after (ok := (fun k_ => k_ ≠ gb493)) (by (with_reducible repeat (first | apply Kd.R_alloc | apply Kd.R_drewN | apply Kd.R_drew)); exact Kd.R_mono HO511.out (fun _ hk => ⟨hk.2, hk.1⟩)) hg hat)
                 have n3_ := Aside0.mk (hb)
                 have n4_ := Aside0.mk (ho)
                 clear BK493
                 clear BK501
                 clear HO511
                 clear HB
                 clear HO508
                 have BK493 := n0_
                 have BK501 := n1_
                 have HO511 := n2_
                 have HB := n3_
                 have HO514 := n4_
                 clear n0_ n1_ n2_ n3_ n4_
                 clear ho hb hg hat
                 obtain ⟨Ao70, co70, eo70⟩ := Kd.R_slice HO514.out
                 (first | subst eo70 | (injection eo70 with f1_ f2_ f3_; have f4_ := f1_.symm; have f5_ := f3_.symm; clear f1_ f2_ f3_; subst f4_; subst f5_))
                 refine hK.out _ _ ⟨(blk_cell BK493.out 0).trans rfl, (blk_cell BK493.out 1).trans rfl, (blk_cell BK493.out 2).trans rfl, ((HB.out.cell (World.block_lt_of_cell? w _ hw505_0)).trans hw505_0), ((HB.out.cell (World.block_lt_of_cell? w _ hw505_1)).trans hw505_1), ((HB.out.cell (World.block_lt_of_cell? w _ hw505_2)).trans hw505_2), ((HB.out.cell (World.block_lt_of_cell? w _ hw505_3)).trans hw505_3), ((HB.out.cell (World.block_lt_of_cell? w _ hw505_4)).trans hw505_4)⟩ (fun hHeld => ?_)
                 clear hK K
                 refine norm_ (a' := ?_) ?_ ?_
                 rotate_left
                 ·show Act.put _ (some 70) _ = _
                  simp only [Act.put, List.setIfInBounds_toArray, List.set_cons_zero, List.set_cons_succ, i64_w, i32_w]
                  rfl
                 refine pure_ (i := 10) (N := some 71) (v := ?_) (a' := ?_) #[true, true, true, true, true, true, true, true, true, true, true, false] rfl rfl (any_of HT_.out (by kernel_rfl)) (fun _ _ _ h => h) (Or.inl ⟨by rfl, ?_⟩) ?_ ?_
                 rotate_left
                 ·intro w'
                  go_simp
                  with_reducible rfl
                 rotate_left
                 ·simp only [Act.put, List.setIfInBounds_toArray, List.set_cons_zero, List.set_cons_succ, i64_w, i32_w]
                  rfl
                 refine one_ (i := 11) (N := none) #[true, true, true, true, true, true, true, true, true, true, true, true] rfl rfl (one_of HT_.out (by kernel_rfl)) (by decide) (fun K hK => ?_)
                 have hs71 : w68.cell? ⟨gb501, 1, none⟩ = some (.slice A500_1 ((rd_T47 l1 x9_3).f1).length c500_1) := (blk_cell BK501.out 1).trans rfl
                 have hfs71 := blk_frozen BK501.out 1
                 have hns71_0 := NB493_501.out
                 have hms71_0 := NB501_493.out
                 refine skip_ (w1 := ?_) (by rfl) rfl ?_ ?_
                 rotate_left
                 ·go_simp
                  rfl
                 refine hK.out _ _ ⟨((cell_far (p := ⟨gb501, _, none⟩) NB493_501.out _).trans (hHeld.1)), ((cell_far (p := ⟨gb501, _, none⟩) NB493_501.out _).trans (hHeld.2.1)), ((cell_far (p := ⟨gb501, _, none⟩) NB493_501.out _).trans (hHeld.2.2.1)), ((cell_far (p := ⟨gb501, _, none⟩) (by first | exact Nat.ne_of_lt (Nat.lt_of_lt_of_le (by have := World.block_lt_of_cell? _ _ hw505_0; first | rwa [add_block] at this | exact this) GW501.out) | (rw [add_block]; exact Nat.ne_of_lt (Nat.lt_of_lt_of_le (by have := World.block_lt_of_cell? _ _ hw505_0; first | rwa [add_block] at this | exact this) GW501.out)) | (show (Addr.add _ _).block ≠ _; rw [add_block]; exact Nat.ne_of_lt (Nat.lt_of_lt_of_le (by have := World.block_lt_of_cell? _ _ hw505_0; first | rwa [add_block] at this | exact this) GW501.out)) | (dsimp only; exact Nat.ne_of_lt (Nat.lt_of_lt_of_le (by have := World.block_lt_of_cell? _ _ hw505_0; first | rwa [add_block] at this | exact this) GW501.out))) _).trans (hHeld.2.2.2.1)), ((cell_far (p := ⟨gb501, _, none⟩) (by first | exact Nat.ne_of_lt (Nat.lt_of_lt_of_le (by have := World.block_lt_of_cell? _ _ hw505_1; first | rwa [add_block] at this | exact this) GW501.out) | (rw [add_block]; exact Nat.ne_of_lt (Nat.lt_of_lt_of_le (by have := World.block_lt_of_cell? _ _ hw505_1; first | rwa [add_block] at this | exact this) GW501.out)) | (show (Addr.add _ _).block ≠ _; rw [add_block]; exact Nat.ne_of_lt (Nat.lt_of_lt_of_le (by have := World.block_lt_of_cell? _ _ hw505_1; first | rwa [add_block] at this | exact this) GW501.out)) | (dsimp only; exact Nat.ne_of_lt (Nat.lt_of_lt_of_le (by have := World.block_lt_of_cell? _ _ hw505_1; first | rwa [add_block] at this | exact this) GW501.out))) _).trans (hHeld.2.2.2.2.1)), ((cell_far (p := ⟨gb501, _, none⟩) (by first | exact Nat.ne_of_lt (Nat.lt_of_lt_of_le (by have := World.block_lt_of_cell? _ _ hw505_2; first | rwa [add_block] at this | exact this) GW501.out) | (rw [add_block]; exact Nat.ne_of_lt (Nat.lt_of_lt_of_le (by have := World.block_lt_of_cell? _ _ hw505_2; first | rwa [add_block] at this | exact this) GW501.out)) | (show (Addr.add _ _).block ≠ _; rw [add_block]; exact Nat.ne_of_lt (Nat.lt_of_lt_of_le (by have := World.block_lt_of_cell? _ _ hw505_2; first | rwa [add_block] at this | exact this) GW501.out)) | (dsimp only; exact Nat.ne_of_lt (Nat.lt_of_lt_of_le (by have := World.block_lt_of_cell? _ _ hw505_2; first | rwa [add_block] at this | exact this) GW501.out))) _).trans (hHeld.2.2.2.2.2.1)), ((cell_far (p := ⟨gb501, _, none⟩) (by first | exact Nat.ne_of_lt (Nat.lt_of_lt_of_le (by have := World.block_lt_of_cell? _ _ hw505_3; first | rwa [add_block] at this | exact this) GW501.out) | (rw [add_block]; exact Nat.ne_of_lt (Nat.lt_of_lt_of_le (by have := World.block_lt_of_cell? _ _ hw505_3; first | rwa [add_block] at this | exact this) GW501.out)) | (show (Addr.add _ _).block ≠ _; rw [add_block]; exact Nat.ne_of_lt (Nat.lt_of_lt_of_le (by have := World.block_lt_of_cell? _ _ hw505_3; first | rwa [add_block] at this | exact this) GW501.out)) | (dsimp only; exact Nat.ne_of_lt (Nat.lt_of_lt_of_le (by have := World.block_lt_of_cell? _ _ hw505_3; first | rwa [add_block] at this | exact this) GW501.out))) _).trans (hHeld.2.2.2.2.2.2.1)), ((cell_far (p := ⟨gb501, _, none⟩) (by first | exact Nat.ne_of_lt (Nat.lt_of_lt_of_le (by have := World.block_lt_of_cell? _ _ hw505_4; first | rwa [add_block] at this | exact this) GW501.out) | (rw [add_block]; exact Nat.ne_of_lt (Nat.lt_of_lt_of_le (by have := World.block_lt_of_cell? _ _ hw505_4; first | rwa [add_block] at this | exact this) GW501.out)) | (show (Addr.add _ _).block ≠ _; rw [add_block]; exact Nat.ne_of_lt (Nat.lt_of_lt_of_le (by have := World.block_lt_of_cell? _ _ hw505_4; first | rwa [add_block] at this | exact this) GW501.out)) | (dsimp only; exact Nat.ne_of_lt (Nat.lt_of_lt_of_le (by have := World.block_lt_of_cell? _ _ hw505_4; first | rwa [add_block] at this | exact this) GW501.out))) _).trans (hHeld.2.2.2.2.2.2.2))⟩ (fun hHeld => ?_)
                 clear hK K
                 refine done_ (done_of HT_.out (by kernel_rfl)) ?_
                 have n0_ : Aside0 (Kd.R k36 36 (w68.setCell ⟨gb501, 1, none⟩ (.slice Ao70 y512.length co70)) w.heap.size (fun k_ => some k_ ≠ (.slice Ao70 y512.length co70 : Value).ownBlock ∧ k_ ≠ gb493) (.slice Ao69 y509.length co69) y509) := ⟨by (with_reducible repeat (first | apply Kd.R_alloc | apply Kd.R_drewN | apply Kd.R_drew)); exact Kd.R_mono (Kd.R_far (p := ⟨gb501, 1, none⟩) (Kd.R_types HO511.out BK501.out (by decide)) (fun _ hk => hk.2) (.slice Ao70 y512.length co70)) (fun _ hk => ⟨hk.1.2, hk.1.1⟩)⟩
                 have n1_ : Aside0 (Kd.R k36 36 (w68.setCell ⟨gb501, 1, none⟩ (.slice Ao70 y512.length co70)) w.heap.size (fun k_ => some k_ ≠ (.slice Ao69 y509.length co69 : Value).ownBlock ∧ k_ ≠ gb493) (.slice Ao70 y512.length co70) y512) := ⟨by (with_reducible repeat (first | apply Kd.R_alloc | apply Kd.R_drewN | apply Kd.R_drew)); exact Kd.R_mono (Kd.R_far (p := ⟨gb501, 1, none⟩) (Kd.R_types HO514.out BK501.out (by decide)) (fun _ hk => hk.2) (.slice Ao70 y512.length co70)) (fun _ hk => ⟨hk.1.1, hk.1.2⟩)⟩
                 have n2_ : Aside0 ((w68.setCell ⟨gb501, 1, none⟩ (.slice Ao70 y512.length co70)).heap[gb493]? = some (.cells #[.string a2_0, .int .i64 a2_1, .int .i64 a2_2] 36 (0, 0))) := ⟨by (with_reducible repeat (first | refine blk_drewN ?_ _ | refine blk_drew ?_ | refine blk_alloc ?_ _)); refine blk_far ?_ NB493_501.out _; (with_reducible repeat (first | refine blk_drewN ?_ _ | refine blk_drew ?_ | refine blk_alloc ?_ _)); exact BK493.out⟩
                 have n3_ : Aside0 ((w68.setCell ⟨gb501, 1, none⟩ (.slice Ao70 y512.length co70)).heap[gb501]? = some (.cells #[.string ((rd_T47 l1 x9_3).f0), .slice Ao70 y512.length co70, .int .i64 ((rd_T47 l1 x9_3).f2), .int .i64 ((rd_T47 l1 x9_3).f3), .int .i64 ((rd_T47 l1 x9_3).f4)] 47 (0, 0))) := ⟨by (with_reducible repeat (first | refine blk_drewN ?_ _ | refine blk_drew ?_ | refine blk_alloc ?_ _)); refine blk_put (cs := #[.string ((rd_T47 l1 x9_3).f0), .slice A500_1 ((rd_T47 l1 x9_3).f1).length c500_1, .int .i64 ((rd_T47 l1 x9_3).f2), .int .i64 ((rd_T47 l1 x9_3).f3), .int .i64 ((rd_T47 l1 x9_3).f4)]) ?_ 1 _ rfl; (with_reducible repeat (first | refine blk_drewN ?_ _ | refine blk_drew ?_ | refine blk_alloc ?_ _)); exact BK501.out⟩
                 have n4_ : Aside0 (Below w.heap.size w (w68.setCell ⟨gb501, 1, none⟩ (.slice Ao70 y512.length co70))) := ⟨by repeat (first | (with_reducible first | exact HB.out | apply below_alloc | apply pw_below_drewN | apply below_drew1 | refine below_set ?_ GE493.out | refine below_set ?_ GE501.out) | exact HB.out)⟩
                 (try clear HO511)
                 (try clear HO514)
                 (try clear BK493)
                 (try clear BK501)
                 (try clear HB)
                 generalize (w68.setCell ⟨gb501, 1, none⟩ (.slice Ao70 y512.length co70)) = w72 at n0_ n1_ n2_ n3_ n4_ ⊢
                 have HO511 := n0_
                 have HO514 := n1_
                 have BK493 := n2_
                 have BK501 := n3_
                 have HB := n4_
                 clear n0_ n1_ n2_ n3_ n4_
                 have p515 : 0 ≤ (x9_3 : Int) := of_decide_eq_true (by first | (with_reducible assumption) | assumption)
                 have q515 : x9_3 < (l1.length : Int) := of_decide_eq_true (by first | (with_reducible assumption) | assumption)
                 obtain ⟨ad515, A515_1, c515_1, e515, hx515_0, hx515_1, hx515_2, hx515_3, hx515_4, hl515_1, hi515_1⟩ := at_T47 HR1.out x9_3 p515 q515
                 obtain rfl : ad500 = ad515 := (by injection e515)
                 replace hx515_0 := (HB.out.cell (World.block_lt_of_cell? w _ hx515_0)).trans hx515_0
                 replace hx515_1 := (HB.out.cell (World.block_lt_of_cell? w _ hx515_1)).trans hx515_1
                 replace hx515_2 := (HB.out.cell (World.block_lt_of_cell? w _ hx515_2)).trans hx515_2
                 replace hx515_3 := (HB.out.cell (World.block_lt_of_cell? w _ hx515_3)).trans hx515_3
                 replace hx515_4 := (HB.out.cell (World.block_lt_of_cell? w _ hx515_4)).trans hx515_4
                 have HR515_1 := Aside0.mk hi515_1
                 have HC515_1 := Aside0.mk hl515_1
                 clear hi515_1 hl515_1
                 replace p515 := eq_true p515
                 replace q515 := eq_true q515
                 try go_wp2_with (first | ((with_reducible refine gate_callee (f := 20) rfl ?_); refine goesL_ (some 78) rfl rfl Try.func20 (by kernel_rfl) rfl #[.slice A0 l0.length c0, .agg #[.string ((rd_T47 l1 x9_3).f0), .slice A515_1 ((rd_T47 l1 x9_3).f1).length c515_1, .int .i64 ((rd_T47 l1 x9_3).f2), .int .i64 ((rd_T47 l1 x9_3).f3), .int .i64 ((rd_T47 l1 x9_3).f4)]] rfl (by (try simp only [List.map_toArray, List.map_cons, List.map_nil]); first | done | rfl | (simp only [List.length_drop, List.length_take]; rfl)) ?_; (with_reducible refine (machine_Chain.calls k3 _ _ l0 ((rd_T47 l1 x9_3).f0) (fun k_ => k_ < w.heap.size) _ _ ((rd_T47 l1 x9_3).f1) ((rd_T47 l1 x9_3).f2) ((rd_T47 l1 x9_3).f3) ((rd_T47 l1 x9_3).f4) t516 t517 _ ?side1 ?side2 ?side3 A32.out).mono ?_); (case side1 => repeat (first | exact (Kd.C_below HR0.out HB.out) | (with_reducible refine Kd.C_alloc ?_ _) | (with_reducible refine Kd.C_drewN ?_ _) | (with_reducible refine Kd.C_drew ?_))); (case side2 => exact HC0.out); (case side3 => exact Kd.V_mk HC515_1.out (Kd.F_below (Kd.C_F k36_heap HR515_1.out) (by repeat (first | (with_reducible first | exact HB.out | apply below_alloc | apply pw_below_drewN | apply below_drew1 | refine below_set ?_ GE493.out | refine below_set ?_ GE501.out) | exact HB.out)))); rintro e w73 ⟨rfl, hb⟩; refine ⟨_, rfl, ?_⟩; have n0_ := Aside0.mk (Kd.R_below (by (with_reducible repeat (first | apply Kd.R_alloc | apply Kd.R_drewN | apply Kd.R_drew)); exact HO511.out) hb); have n1_ := Aside0.mk (Kd.R_below (by (with_reducible repeat (first | apply Kd.R_alloc | apply Kd.R_drewN | apply Kd.R_drew)); exact HO514.out) hb); have n2_ := Aside0.mk (blk_below (g := gb493) (o := .cells #[.string a2_0, .int .i64 a2_1, .int .i64 a2_2] 36 (0, 0)) (by (with_reducible repeat (first | refine blk_drewN ?_ _ | refine blk_drew ?_ | refine blk_alloc ?_ _)); exact BK493.out) hb); have n3_ := Aside0.mk (blk_below (g := gb501) (o := .cells #[.string ((rd_T47 l1 x9_3).f0), .slice Ao70 y512.length co70, .int .i64 ((rd_T47 l1 x9_3).f2), .int .i64 ((rd_T47 l1 x9_3).f3), .int .i64 ((rd_T47 l1 x9_3).f4)] 47 (0, 0)) (by (with_reducible repeat (first | refine blk_drewN ?_ _ | refine blk_drew ?_ | refine blk_alloc ?_ _)); exact BK501.out) hb); have n4_ := Aside0.mk (below_step (by repeat (first | (with_reducible first | exact HB.out | apply below_alloc | apply pw_below_drewN | apply below_drew1 | refine below_set ?_ GE493.out | refine below_set ?_ GE501.out) | exact HB.out)) hb); clear HO511; clear HO514; clear BK493; clear BK501; clear HB; have HO511 := n0_; have HO514 := n1_; have BK493 := n2_; have BK501 := n3_; have HB := n4_; clear n0_ n1_ n2_ n3_ n4_; (try clear hb); (try clear hb2); (try clear hk); (try clear hi); have hcz74_0 : w73.cell? ⟨gb501, 0, none⟩ = some (.string ((rd_T47 l1 x9_3).f0)) := (blk_cell BK501.out 0).trans rfl; have hcz74_1 : w73.cell? ⟨gb501, 1, none⟩ = some (.slice Ao70 y512.length co70) := (blk_cell BK501.out 1).trans rfl; have hcz74_2 : w73.cell? ⟨gb501, 2, none⟩ = some (.int .i64 ((rd_T47 l1 x9_3).f2)) := (blk_cell BK501.out 2).trans rfl; have hcz74_3 : w73.cell? ⟨gb501, 3, none⟩ = some (.int .i64 ((rd_T47 l1 x9_3).f3)) := (blk_cell BK501.out 3).trans rfl; have hcz74_4 : w73.cell? ⟨gb501, 4, none⟩ = some (.int .i64 ((rd_T47 l1 x9_3).f4)) := (blk_cell BK501.out 4).trans rfl; have hfz74_0 := blk_frozen BK501.out 0; have hfz74_1 := blk_frozen BK501.out 1; have hfz74_2 := blk_frozen BK501.out 2; have hfz74_3 := blk_frozen BK501.out 3; have hfz74_4 := blk_frozen BK501.out 4) | ((with_reducible refine gate_callee (f := 20) rfl ?_); refine goesL_ (some 84) rfl rfl Try.func20 (by kernel_rfl) rfl #[.slice A0 l0.length c0, .agg #[.string ((rd_T47 l1 x9_3).f0), .slice Ao70 y512.length co70, .int .i64 ((rd_T47 l1 x9_3).f2), .int .i64 ((rd_T47 l1 x9_3).f3), .int .i64 ((rd_T47 l1 x9_3).f4)]] rfl (by (try simp only [List.map_toArray, List.map_cons, List.map_nil]); first | done | rfl | (simp only [List.length_drop, List.length_take]; rfl)) ?_; (with_reducible refine (machine_Chain.calls k3 _ _ l0 ((rd_T47 l1 x9_3).f0) (fun k_ => some k_ = (.slice Ao70 y512.length co70 : Value).ownBlock) _ _ y512 ((rd_T47 l1 x9_3).f2) ((rd_T47 l1 x9_3).f3) ((rd_T47 l1 x9_3).f4) t518 t519 _ ?side1 ?side2 ?side3 A33.out).mono ?_); (case side1 => repeat (first | exact (Kd.C_below HR0.out HB.out) | (with_reducible refine Kd.C_alloc ?_ _) | (with_reducible refine Kd.C_drewN ?_ _) | (with_reducible refine Kd.C_drew ?_))); (case side2 => exact HC0.out); (case side3 => exact Kd.R_V (Kd.R_tight rfl (Kd.R_types (HO514.out) BK501.out (by decide)))); rintro e w75 ⟨rfl, hb⟩; refine ⟨_, rfl, ?_⟩; have n0_ := Aside0.mk (Kd.R_below (by (with_reducible repeat (first | apply Kd.R_alloc | apply Kd.R_drewN | apply Kd.R_drew)); exact HO511.out) hb); have n1_ := Aside0.mk (Kd.R_below (by (with_reducible repeat (first | apply Kd.R_alloc | apply Kd.R_drewN | apply Kd.R_drew)); exact HO514.out) hb); have n2_ := Aside0.mk (blk_below (g := gb493) (o := .cells #[.string a2_0, .int .i64 a2_1, .int .i64 a2_2] 36 (0, 0)) (by (with_reducible repeat (first | refine blk_drewN ?_ _ | refine blk_drew ?_ | refine blk_alloc ?_ _)); exact BK493.out) hb); have n3_ := Aside0.mk (blk_below (g := gb501) (o := .cells #[.string ((rd_T47 l1 x9_3).f0), .slice Ao70 y512.length co70, .int .i64 ((rd_T47 l1 x9_3).f2), .int .i64 ((rd_T47 l1 x9_3).f3), .int .i64 ((rd_T47 l1 x9_3).f4)] 47 (0, 0)) (by (with_reducible repeat (first | refine blk_drewN ?_ _ | refine blk_drew ?_ | refine blk_alloc ?_ _)); exact BK501.out) hb); have n4_ := Aside0.mk (below_step (by repeat (first | (with_reducible first | exact HB.out | apply below_alloc | apply pw_below_drewN | apply below_drew1 | refine below_set ?_ GE493.out | refine below_set ?_ GE501.out) | exact HB.out)) hb); clear HO511; clear HO514; clear BK493; clear BK501; clear HB; have HO511 := n0_; have HO514 := n1_; have BK493 := n2_; have BK501 := n3_; have HB := n4_; clear n0_ n1_ n2_ n3_ n4_; (try clear hb); (try clear hb2); (try clear hk); (try clear hi)))
                 go_roundg k3
                 case measure => have := HJ5.out; have := HJ14.out; have := HK3.out; omega
                 case rel => exact ⟨(wrap64 (x9_3 + 1)), (by first | rfl | (simp; done) | (simp [*]; done)), H', ⟨by have := HJ5.out; have := HJ14.out; have := HK3.out; omega⟩, ⟨by (with_reducible repeat (first | refine blk_drewN ?_ _ | refine blk_drew ?_ | refine blk_alloc ?_ _)); exact BK493.out⟩, ⟨by repeat (first | (with_reducible first | exact HB.out | apply below_alloc | apply pw_below_drewN | apply below_drew1 | refine below_set ?_ GE493.out | refine below_set ?_ GE501.out) | exact HB.out)⟩⟩
               ·rw [if_neg c34] at H
                have c34b0 : (t517 == 0) = false := beq_eq_false_iff_ne.mpr c34
                have c34b1 : (t517 != 0) = true := bne_iff_ne.mpr c34
                obtain rfl := Option.some.inj H
                exact absurd hr (by decide)
              ·rw [if_neg c31] at H
               exact absurd H (by simp)
             ·rw [if_neg c30] at H
              exact absurd H (by simp)
            ·rw [if_neg c29] at H
             exact absurd H (by simp)
           ·rw [if_neg c28] at H
            have c28b0 : decide (x9_3 < (l1.length : Int)) = false := decide_eq_false c28
            clear c28
            obtain rfl := Option.some.inj H
            simp only [Option.some.injEq, Prod.mk.injEq] at H
            obtain ⟨rfl⟩ := H
            go_wp2
            go_ret
            exact ⟨by first | rfl | (simp [errW_none, errW_some] <;> rfl) | (simp [*, errW_none, errW_some] <;> rfl), by repeat (first | (with_reducible first | exact HB.out | apply below_alloc | apply pw_below_drewN | apply below_drew1 | refine below_set ?_ GE493.out) | exact HB.out)⟩
        ·rw [if_neg c27] at H
         have c27b0 : (t496 == 0) = false := beq_eq_false_iff_ne.mpr c27
         have c27b1 : (t496 != 0) = true := bne_iff_ne.mpr c27
         obtain rfl := Option.some.inj H
         simp only [Option.some.injEq, Prod.mk.injEq] at H
         obtain ⟨rfl⟩ := H
         go_wp2
         go_ret
         exact ⟨by first | rfl | (simp [errW_none, errW_some] <;> rfl) | (simp [*, errW_none, errW_some] <;> rfl), by repeat (first | (with_reducible first | exact HB.out | apply below_alloc | apply pw_below_drewN | apply below_drew1 | refine below_set ?_ GE493.out) | exact HB.out)⟩
 ·replace c5 := Bool.eq_false_iff.mpr c5
  subst c5
  have H1 : (some false) = some r := by rw [if_neg (show ¬ (false = true) by decide)] at H; exact H
  clear H
  have H := H1
  clear H1
  obtain rfl := Option.some.inj H
  exact absurd hr (by decide)

end Go.Proofs.Ytpfggghpkdnppaa.P
