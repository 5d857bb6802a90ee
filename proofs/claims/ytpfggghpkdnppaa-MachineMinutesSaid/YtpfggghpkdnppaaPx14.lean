/- What functions of the program return: each contract says so of one function, for every input at which its pure function yields. -/
import Derived.Test.YtpfggghpkdnppaaPx0
import Derived.Test.YtpfggghpkdnppaaPx11
import Derived.Test.YtpfggghpkdnppaaPx13
namespace Go.Proofs.Ytpfggghpkdnppaa.P
open Go.RowKit Go.Proofs.YtpfggghpkdnppaaW.PrintWords Go.Proofs.YtpfggghpkdnppaaW.PrintLast Go.Proofs.YtpfggghpkdnppaaW.PrintMore
attribute [local go_sem] max2_int min2_int max_two min_two max_three min_three max_four min_four   -- for this text's walks alone
set_option linter.unusedVariables false
set_option linter.unusedSimpArgs false

mutual
def gangsawref49_Minutes.j0 : Nat → Bool → Bool → ByteArray → ByteArray → Int → ByteArray → Int → Int → Option (Int × Int)
  | 0, _, _, _, _, _, _, _, _ => none
  | k + 1, x2, x23, x279000, x279001, x279002, x280000, x280001, x280002 => if x23 = true then (some (0, 4)) else ((gangsawref49_in.f x279002 0 100000).bind fun t283 => (if t283 = true then ((gangsawref49_step.f x280000 x280001 x280002).bind fun t284 => (gangsawref49_Minutes.j1 k x2 (!t284) x279000 x279001 x279002 x280000 x280001 x280002)) else (gangsawref49_Minutes.j1 k x2 true x279000 x279001 x279002 x280000 x280001 x280002)))
def gangsawref49_Minutes.j1 : Nat → Bool → Bool → ByteArray → ByteArray → Int → ByteArray → Int → Int → Option (Int × Int)
  | 0, _, _, _, _, _, _, _, _ => none
  | k + 1, x2, x32, x279000, x279001, x279002, x280000, x280001, x280002 => if x32 = true then (some (0, 6)) else (if x279001.toList = x280000.toList then (if x2 = true then (some (wrap64 (x279002 + x280001), 0)) else (some (x280001, 0))) else (some (0, 10)))
end
def gangsawref49_Minutes.f (k : Nat) (a0_0 : ByteArray) (a0_1 : ByteArray) (a0_2 : Int) (a1_0 : ByteArray) (a1_1 : Int) (a1_2 : Int) (a2 : Bool) : Option (Int × Int) := (gangsawref09_Name.f k a0_0).bind fun t280 => (if t280 = true then ((gangsawref09_Name.f k a0_1).bind fun t281 => (if t281 = true then ((gangsawref09_Name.f k a1_0).bind fun t282 => (gangsawref49_Minutes.j0 k a2 (!t282) a0_0 a0_1 a0_2 a1_0 a1_1 a1_2)) else (gangsawref49_Minutes.j0 k a2 true a0_0 a0_1 a0_2 a1_0 a1_1 a1_2))) else (gangsawref49_Minutes.j0 k a2 true a0_0 a0_1 a0_2 a1_0 a1_1 a1_2))
set_option maxHeartbeats 8000000 in
set_option maxRecDepth 100000 in
theorem gangsawref49_Minutes.calls (k : Nat) (a0_0 : ByteArray) (a0_1 : ByteArray) (a0_2 : Int) (a1_0 : ByteArray) (a1_1 : Int) (a1_2 : Int) (a2 : Bool) (r1 : Int) (r2 : Int) (w : World) (h : gangsawref49_Minutes.f k a0_0 a0_1 a0_2 a1_0 a1_1 a1_2 a2 = some (r1, r2)) :
    Calls Try.prog 16 #[.agg #[.string a0_0, .string a0_1, .int .i64 a0_2], .agg #[.string a1_0, .int .i64 a1_1, .int .i64 a1_2], .bool a2] w fun e w' => e = .returned (.tuple #[.int .i64 r1, .int .i64 r2]) ∧ Below w.heap.size w w' := by
  have hu34 := Try.underlying34
  have hu36 := Try.underlying36
  have HB := Aside0.mk (Below.refl w.heap.size w)
  have H : ((gangsawref09_Name.f k a0_0).bind fun t280 => (if t280 = true then ((gangsawref09_Name.f k a0_1).bind fun t281 => (if t281 = true then ((gangsawref09_Name.f k a1_0).bind fun t282 => (gangsawref49_Minutes.j0 k a2 (!t282) a0_0 a0_1 a0_2 a1_0 a1_1 a1_2)) else (gangsawref49_Minutes.j0 k a2 true a0_0 a0_1 a0_2 a1_0 a1_1 a1_2))) else (gangsawref49_Minutes.j0 k a2 true a0_0 a0_1 a0_2 a1_0 a1_1 a1_2))) = some (r1, r2) := h
  clear h
  have HC4 := Aside0.mk H
  clear H
  go_enter Try.func16, Try.ntmps16
  go_upto_region 1 with (first | ((with_reducible refine gate_dst (N := 3) rfl ?_); refine box_event ?hg (N := 3) ?hd (cs := #[.string a0_0, .string a0_1, .int .i64 a0_2]) (t := 34) ?hr ?_; (case hd => rfl); (case hg => rfl); (case hr => first | (go_simp; done) | (go_simp; rfl)); intro gb278 hg w5 hbox hb; have n0_ := Aside0.mk (below_step (by repeat (first | (with_reducible first | exact HB.out | apply below_alloc | apply pw_below_drewN | apply below_drew1) | exact HB.out)) hb); have n1_ := Aside0.mk (hbox); have n2_ := Aside0.mk ((by rw [hg]; exact (below_size (by repeat (first | (with_reducible first | exact HB.out | apply below_alloc | apply pw_below_drewN | apply below_drew1) | exact HB.out))) : w.heap.size ≤ gb278)); have n3_ := Aside0.mk ((by rw [hg]; exact (below_size (by repeat (first | (with_reducible first | exact HB.out | apply below_alloc | apply pw_below_drewN | apply below_drew1) | exact HB.out))) : w.heap.size ≤ gb278)); clear HB; have HB := n0_; have BK278 := n1_; have GW278 := n2_; have GE278 := n3_; clear n0_ n1_ n2_ n3_; clear hb hbox hg) | ((with_reducible refine gate_dst (N := 4) rfl ?_); refine box_event ?hg (N := 4) ?hd (cs := #[.string a1_0, .int .i64 a1_1, .int .i64 a1_2]) (t := 36) ?hr ?_; (case hd => rfl); (case hg => rfl); (case hr => first | (go_simp; done) | (go_simp; rfl)); intro gb279 hg w6 hbox hb; have n0_ := Aside0.mk (blk_below (g := gb278) (o := .cells #[.string a0_0, .string a0_1, .int .i64 a0_2] 34 (0, 0)) (by (with_reducible repeat (first | refine blk_drewN ?_ _ | refine blk_drew ?_ | refine blk_alloc ?_ _)); exact BK278.out) hb); have n1_ := Aside0.mk (below_step (by repeat (first | (with_reducible first | exact HB.out | apply below_alloc | apply pw_below_drewN | apply below_drew1 | refine below_set ?_ GE278.out) | exact HB.out)) hb); have n2_ := Aside0.mk (hbox); have n3_ := Aside0.mk ((by rw [hg]; exact (below_size (by repeat (first | (with_reducible first | exact HB.out | apply below_alloc | apply pw_below_drewN | apply below_drew1 | refine below_set ?_ GE278.out) | exact HB.out))) : w.heap.size ≤ gb279)); have n4_ := Aside0.mk ((by rw [hg]; exact (below_size (by repeat (first | (with_reducible first | exact HB.out | apply below_alloc | apply pw_below_drewN | apply below_drew1 | refine below_set ?_ GE278.out) | exact HB.out))) : w.heap.size ≤ gb279)); have n5_ := Aside0.mk ((by rw [hg]; exact Nat.ne_of_lt (blk_lt (g := gb278) (o := .cells #[.string a0_0, .string a0_1, .int .i64 a0_2] 34 (0, 0)) (by (with_reducible repeat (first | refine blk_drewN ?_ _ | refine blk_drew ?_ | refine blk_alloc ?_ _)); exact BK278.out)) : gb278 ≠ gb279)); have n6_ := Aside0.mk ((by rw [hg]; exact Nat.ne_of_gt (blk_lt (g := gb278) (o := .cells #[.string a0_0, .string a0_1, .int .i64 a0_2] 34 (0, 0)) (by (with_reducible repeat (first | refine blk_drewN ?_ _ | refine blk_drew ?_ | refine blk_alloc ?_ _)); exact BK278.out)) : gb279 ≠ gb278)); clear BK278; clear HB; have BK278 := n0_; have HB := n1_; have BK279 := n2_; have GW279 := n3_; have GE279 := n4_; have NB278_279 := n5_; have NB279_278 := n6_; clear n0_ n1_ n2_ n3_ n4_ n5_ n6_; clear hb hbox hg))
  (try simp only [Act.put, List.setIfInBounds_toArray, List.set_cons_zero, List.set_cons_succ])
  go_cut [23] (fun v23 wc => ∃ (kq : Nat) (x23_3 : Bool), v23 = .bool x23_3 ∧ Aside0 (gangsawref49_Minutes.j0 kq a2 x23_3 a0_0 a0_1 a0_2 a1_0 a1_1 a1_2 = some (r1, r2)) ∧ Aside0 (kq ≤ k) ∧ Aside0 (wc.heap[gb278]? = some (.cells #[.string a0_0, .string a0_1, .int .i64 a0_2] 34 (0, 0))) ∧ Aside0 (wc.heap[gb279]? = some (.cells #[.string a1_0, .int .i64 a1_1, .int .i64 a1_2] 36 (0, 0))) ∧ Aside0 (Below w.heap.size w wc))
  case first =>
    have H := HC4.out
    clear HC4
    replace H := Option.bind_eq_some_iff.mp H
    obtain ⟨t280, A70, H⟩ := H
    replace H : (if t280 = true then ((gangsawref09_Name.f k a0_1).bind fun t281 => (if t281 = true then ((gangsawref09_Name.f k a1_0).bind fun t282 => (gangsawref49_Minutes.j0 k a2 (!t282) a0_0 a0_1 a0_2 a1_0 a1_1 a1_2)) else (gangsawref49_Minutes.j0 k a2 true a0_0 a0_1 a0_2 a1_0 a1_1 a1_2))) else (gangsawref49_Minutes.j0 k a2 true a0_0 a0_1 a0_2 a1_0 a1_1 a1_2)) = some (r1, r2) := H
    have A7 := Aside0.mk A70
    clear A70
    by_cases c8 : t280 = true
    · subst c8
      have H1 : ((gangsawref09_Name.f k a0_1).bind fun t281 => (if t281 = true then ((gangsawref09_Name.f k a1_0).bind fun t282 => (gangsawref49_Minutes.j0 k a2 (!t282) a0_0 a0_1 a0_2 a1_0 a1_1 a1_2)) else (gangsawref49_Minutes.j0 k a2 true a0_0 a0_1 a0_2 a1_0 a1_1 a1_2))) = some (r1, r2) := by rw [if_pos rfl] at H; exact H
      clear H
      have H := H1
      clear H1
      replace H := Option.bind_eq_some_iff.mp H
      obtain ⟨t281, A90, H⟩ := H
      replace H : (if t281 = true then ((gangsawref09_Name.f k a1_0).bind fun t282 => (gangsawref49_Minutes.j0 k a2 (!t282) a0_0 a0_1 a0_2 a1_0 a1_1 a1_2)) else (gangsawref49_Minutes.j0 k a2 true a0_0 a0_1 a0_2 a1_0 a1_1 a1_2)) = some (r1, r2) := H
      have A9 := Aside0.mk A90
      clear A90
      by_cases c10 : t281 = true
      · subst c10
        have H1 : ((gangsawref09_Name.f k a1_0).bind fun t282 => (gangsawref49_Minutes.j0 k a2 (!t282) a0_0 a0_1 a0_2 a1_0 a1_1 a1_2)) = some (r1, r2) := by rw [if_pos rfl] at H; exact H
        clear H
        have H := H1
        clear H1
        replace H := Option.bind_eq_some_iff.mp H
        obtain ⟨t282, A110, H⟩ := H
        replace H : (gangsawref49_Minutes.j0 k a2 (!t282) a0_0 a0_1 a0_2 a1_0 a1_1 a1_2) = some (r1, r2) := H
        have A11 := Aside0.mk A110
        clear A110
        have H' := Aside0.mk H
        clear H
        have hnb12 := NB278_279.out
        have hnc12 := NB279_278.out
        have hcz13_0 : w6.cell? ⟨gb278, 0, none⟩ = some (.string a0_0) := (blk_cell BK278.out 0).trans rfl
        have hcz13_1 : w6.cell? ⟨gb278, 1, none⟩ = some (.string a0_1) := (blk_cell BK278.out 1).trans rfl
        have hcz13_2 : w6.cell? ⟨gb278, 2, none⟩ = some (.int .i64 a0_2) := (blk_cell BK278.out 2).trans rfl
        have hfz13_0 := blk_frozen BK278.out 0
        have hfz13_1 := blk_frozen BK278.out 1
        have hfz13_2 := blk_frozen BK278.out 2
        go_wp2_with (first | ((with_reducible refine gate_callee (f := 30) rfl ?_); refine goesL_ (some 10) rfl rfl Try.func30 (by kernel_rfl) rfl #[.string a0_0] rfl (by (try simp only [List.map_toArray, List.map_cons, List.map_nil]); first | done | rfl | (simp only [List.length_drop, List.length_take]; rfl)) ?_; (with_reducible refine (gangsawref09_Name.calls k a0_0 true _ A7.out).mono ?_); rintro e w' ⟨rfl, ⟨nd, rfl⟩⟩; refine ⟨_, rfl, ?_⟩) | (go_at_call 30; (with_reducible refine (gangsawref09_Name.calls k a0_1 true _ A9.out).mono ?_); rintro e w' ⟨rfl, ⟨nd, rfl⟩⟩; have hcz14_0 : w6.cell? ⟨gb279, 0, none⟩ = some (.string a1_0) := (blk_cell BK279.out 0).trans rfl; have hcz14_1 : w6.cell? ⟨gb279, 1, none⟩ = some (.int .i64 a1_1) := (blk_cell BK279.out 1).trans rfl; have hcz14_2 : w6.cell? ⟨gb279, 2, none⟩ = some (.int .i64 a1_2) := (blk_cell BK279.out 2).trans rfl; have hfz14_0 := blk_frozen BK279.out 0; have hfz14_1 := blk_frozen BK279.out 1; have hfz14_2 := blk_frozen BK279.out 2) | (go_at_call 30; (with_reducible refine (gangsawref09_Name.calls k a1_0 t282 _ A11.out).mono ?_); rintro e w' ⟨rfl, ⟨nd, rfl⟩⟩))
        go_meet
        case rel => exact ⟨_, (!t282), (by first | rfl | (simp; done) | (simp [*]; done)), H', ⟨by first | omega | exact Nat.le_refl _⟩, ⟨by (with_reducible repeat (first | refine blk_drewN ?_ _ | refine blk_drew ?_ | refine blk_alloc ?_ _)); exact BK278.out⟩, ⟨by (with_reducible repeat (first | refine blk_drewN ?_ _ | refine blk_drew ?_ | refine blk_alloc ?_ _)); exact BK279.out⟩, ⟨by repeat (first | (with_reducible first | exact HB.out | apply below_alloc | apply pw_below_drewN | apply below_drew1 | refine below_set ?_ GE278.out | refine below_set ?_ GE279.out) | exact HB.out)⟩⟩
      · replace c10 := Bool.eq_false_iff.mpr c10
        subst c10
        have H1 : (gangsawref49_Minutes.j0 k a2 true a0_0 a0_1 a0_2 a1_0 a1_1 a1_2) = some (r1, r2) := by rw [if_neg (show ¬ (false = true) by decide)] at H; exact H
        clear H
        have H := H1
        clear H1
        have H' := Aside0.mk H
        clear H
        have hnb15 := NB278_279.out
        have hnc15 := NB279_278.out
        have hcz16_0 : w6.cell? ⟨gb278, 0, none⟩ = some (.string a0_0) := (blk_cell BK278.out 0).trans rfl
        have hcz16_1 : w6.cell? ⟨gb278, 1, none⟩ = some (.string a0_1) := (blk_cell BK278.out 1).trans rfl
        have hcz16_2 : w6.cell? ⟨gb278, 2, none⟩ = some (.int .i64 a0_2) := (blk_cell BK278.out 2).trans rfl
        have hfz16_0 := blk_frozen BK278.out 0
        have hfz16_1 := blk_frozen BK278.out 1
        have hfz16_2 := blk_frozen BK278.out 2
        go_wp2_with (first | ((with_reducible refine gate_callee (f := 30) rfl ?_); refine goesL_ (some 10) rfl rfl Try.func30 (by kernel_rfl) rfl #[.string a0_0] rfl (by (try simp only [List.map_toArray, List.map_cons, List.map_nil]); first | done | rfl | (simp only [List.length_drop, List.length_take]; rfl)) ?_; (with_reducible refine (gangsawref09_Name.calls k a0_0 true _ A7.out).mono ?_); rintro e w' ⟨rfl, ⟨nd, rfl⟩⟩; refine ⟨_, rfl, ?_⟩) | (go_at_call 30; (with_reducible refine (gangsawref09_Name.calls k a0_1 false _ A9.out).mono ?_); rintro e w' ⟨rfl, ⟨nd, rfl⟩⟩))
        go_meet
        case rel => exact ⟨_, (true), (by first | rfl | (simp; done) | (simp [*]; done)), H', ⟨by first | omega | exact Nat.le_refl _⟩, ⟨by (with_reducible repeat (first | refine blk_drewN ?_ _ | refine blk_drew ?_ | refine blk_alloc ?_ _)); exact BK278.out⟩, ⟨by (with_reducible repeat (first | refine blk_drewN ?_ _ | refine blk_drew ?_ | refine blk_alloc ?_ _)); exact BK279.out⟩, ⟨by repeat (first | (with_reducible first | exact HB.out | apply below_alloc | apply pw_below_drewN | apply below_drew1 | refine below_set ?_ GE278.out | refine below_set ?_ GE279.out) | exact HB.out)⟩⟩
    · replace c8 := Bool.eq_false_iff.mpr c8
      subst c8
      have H1 : (gangsawref49_Minutes.j0 k a2 true a0_0 a0_1 a0_2 a1_0 a1_1 a1_2) = some (r1, r2) := by rw [if_neg (show ¬ (false = true) by decide)] at H; exact H
      clear H
      have H := H1
      clear H1
      have H' := Aside0.mk H
      clear H
      have hnb17 := NB278_279.out
      have hnc17 := NB279_278.out
      have hcz18_0 : w6.cell? ⟨gb278, 0, none⟩ = some (.string a0_0) := (blk_cell BK278.out 0).trans rfl
      have hcz18_1 : w6.cell? ⟨gb278, 1, none⟩ = some (.string a0_1) := (blk_cell BK278.out 1).trans rfl
      have hcz18_2 : w6.cell? ⟨gb278, 2, none⟩ = some (.int .i64 a0_2) := (blk_cell BK278.out 2).trans rfl
      have hfz18_0 := blk_frozen BK278.out 0
      have hfz18_1 := blk_frozen BK278.out 1
      have hfz18_2 := blk_frozen BK278.out 2
      go_wp2_with (first | ((with_reducible refine gate_callee (f := 30) rfl ?_); refine goesL_ (some 10) rfl rfl Try.func30 (by kernel_rfl) rfl #[.string a0_0] rfl (by (try simp only [List.map_toArray, List.map_cons, List.map_nil]); first | done | rfl | (simp only [List.length_drop, List.length_take]; rfl)) ?_; (with_reducible refine (gangsawref09_Name.calls k a0_0 false _ A7.out).mono ?_); rintro e w' ⟨rfl, ⟨nd, rfl⟩⟩; refine ⟨_, rfl, ?_⟩))
      go_meet
      case rel => exact ⟨_, (true), (by first | rfl | (simp; done) | (simp [*]; done)), H', ⟨by first | omega | exact Nat.le_refl _⟩, ⟨by (with_reducible repeat (first | refine blk_drewN ?_ _ | refine blk_drew ?_ | refine blk_alloc ?_ _)); exact BK278.out⟩, ⟨by (with_reducible repeat (first | refine blk_drewN ?_ _ | refine blk_drew ?_ | refine blk_alloc ?_ _)); exact BK279.out⟩, ⟨by repeat (first | (with_reducible first | exact HB.out | apply below_alloc | apply pw_below_drewN | apply below_drew1 | refine below_set ?_ GE278.out | refine below_set ?_ GE279.out) | exact HB.out)⟩⟩
  case rest =>
    clear HC4
    try clear c1
    try clear p2
    try clear c3
    try clear c8
    try clear c10
    try clear c12
    try clear c15
    try clear c16
    try clear c17
    try clear hcz13_0
    try clear hcz13_1
    try clear hcz13_2
    try clear hcz14_0
    try clear hcz14_1
    try clear hcz14_2
    try clear hcz16_0
    try clear hcz16_1
    try clear hcz16_2
    try clear hcz18_0
    try clear hcz18_1
    try clear hcz18_2
    try clear hfz13_0
    try clear hfz13_1
    try clear hfz13_2
    try clear hfz14_0
    try clear hfz14_1
    try clear hfz14_2
    try clear hfz16_0
    try clear hfz16_1
    try clear hfz16_2
    try clear hfz18_0
    try clear hfz18_1
    try clear hfz18_2
    obtain ⟨kq, x23_3, rfl, HA, HJ3, BK278, BK279, HB⟩ := hcut
    cases kq with
    | zero => exact absurd HA.out (by simp [gangsawref49_Minutes.j0])
    | succ kj3 =>
      have H := HA.out
      clear HA
      simp only [gangsawref49_Minutes.j0] at H
      by_cases c19 : x23_3 = true
      · subst c19
        have H1 : (some (0, 4)) = some (r1, r2) := by rw [if_pos rfl] at H; exact H
        clear H
        have H := H1
        clear H1
        simp only [Option.some.injEq, Prod.mk.injEq] at H
        obtain ⟨rfl, rfl⟩ := H
        go_wp2
        go_ret2
        exact ⟨by first | rfl | (simp [errW_none, errW_some] <;> rfl) | (simp [*, errW_none, errW_some] <;> rfl), by repeat (first | (with_reducible first | exact HB.out | apply below_alloc | apply pw_below_drewN | apply below_drew1 | refine below_set ?_ GE278.out | refine below_set ?_ GE279.out) | exact HB.out)⟩
      · replace c19 := Bool.eq_false_iff.mpr c19
        subst c19
        have H1 : ((gangsawref49_in.f a0_2 0 100000).bind fun t283 => (if t283 = true then ((gangsawref49_step.f a1_0 a1_1 a1_2).bind fun t284 => (gangsawref49_Minutes.j1 kj3 a2 (!t284) a0_0 a0_1 a0_2 a1_0 a1_1 a1_2)) else (gangsawref49_Minutes.j1 kj3 a2 true a0_0 a0_1 a0_2 a1_0 a1_1 a1_2))) = some (r1, r2) := by rw [if_neg (show ¬ (false = true) by decide)] at H; exact H
        clear H
        have H := H1
        clear H1
        have HC20 := Aside0.mk H
        clear H
        go_upto_region 3 with (fail)
        go_cut [32] (fun v32 wc => ∃ (kq : Nat) (x32_19 : Bool), v32 = .bool x32_19 ∧ Aside0 (gangsawref49_Minutes.j1 kq a2 x32_19 a0_0 a0_1 a0_2 a1_0 a1_1 a1_2 = some (r1, r2)) ∧ Aside0 (kq ≤ kj3) ∧ Aside0 (wc.heap[gb278]? = some (.cells #[.string a0_0, .string a0_1, .int .i64 a0_2] 34 (0, 0))) ∧ Aside0 (wc.heap[gb279]? = some (.cells #[.string a1_0, .int .i64 a1_1, .int .i64 a1_2] 36 (0, 0))) ∧ Aside0 (Below w.heap.size w wc))
        case first =>
          have H := HC20.out
          clear HC20
          replace H := Option.bind_eq_some_iff.mp H
          obtain ⟨t283, A210, H⟩ := H
          replace H : (if t283 = true then ((gangsawref49_step.f a1_0 a1_1 a1_2).bind fun t284 => (gangsawref49_Minutes.j1 kj3 a2 (!t284) a0_0 a0_1 a0_2 a1_0 a1_1 a1_2)) else (gangsawref49_Minutes.j1 kj3 a2 true a0_0 a0_1 a0_2 a1_0 a1_1 a1_2)) = some (r1, r2) := H
          have A21 := Aside0.mk A210
          clear A210
          by_cases c22 : t283 = true
          · subst c22
            have H1 : ((gangsawref49_step.f a1_0 a1_1 a1_2).bind fun t284 => (gangsawref49_Minutes.j1 kj3 a2 (!t284) a0_0 a0_1 a0_2 a1_0 a1_1 a1_2)) = some (r1, r2) := by rw [if_pos rfl] at H; exact H
            clear H
            have H := H1
            clear H1
            replace H := Option.bind_eq_some_iff.mp H
            obtain ⟨t284, A230, H⟩ := H
            replace H : (gangsawref49_Minutes.j1 kj3 a2 (!t284) a0_0 a0_1 a0_2 a1_0 a1_1 a1_2) = some (r1, r2) := H
            have A23 := Aside0.mk A230
            clear A230
            have H' := Aside0.mk H
            clear H
            have hnb24 := NB278_279.out
            have hnc24 := NB279_278.out
            have hcz25_0 : wc.cell? ⟨gb278, 0, none⟩ = some (.string a0_0) := (blk_cell BK278.out 0).trans rfl
            have hcz25_1 : wc.cell? ⟨gb278, 1, none⟩ = some (.string a0_1) := (blk_cell BK278.out 1).trans rfl
            have hcz25_2 : wc.cell? ⟨gb278, 2, none⟩ = some (.int .i64 a0_2) := (blk_cell BK278.out 2).trans rfl
            have hfz25_0 := blk_frozen BK278.out 0
            have hfz25_1 := blk_frozen BK278.out 1
            have hfz25_2 := blk_frozen BK278.out 2
            go_wp2_with (first | ((with_reducible refine gate_callee (f := 31) rfl ?_); refine goesL_ (some 26) rfl rfl Try.func31 (by kernel_rfl) rfl #[.int .i64 a0_2, .int .i64 0, .int .i64 100000] rfl (by (try simp only [List.map_toArray, List.map_cons, List.map_nil]); first | done | rfl | (simp only [List.length_drop, List.length_take]; rfl)) ?_; (with_reducible refine (gangsawref49_in.calls a0_2 0 100000 true _ A21.out).mono ?_); rintro e w' ⟨rfl, ⟨nd, rfl⟩⟩; refine ⟨_, rfl, ?_⟩; have hcz26_0 : wc.cell? ⟨gb279, 0, none⟩ = some (.string a1_0) := (blk_cell BK279.out 0).trans rfl; have hcz26_1 : wc.cell? ⟨gb279, 1, none⟩ = some (.int .i64 a1_1) := (blk_cell BK279.out 1).trans rfl; have hcz26_2 : wc.cell? ⟨gb279, 2, none⟩ = some (.int .i64 a1_2) := (blk_cell BK279.out 2).trans rfl; have hfz26_0 := blk_frozen BK279.out 0; have hfz26_1 := blk_frozen BK279.out 1; have hfz26_2 := blk_frozen BK279.out 2) | (go_at_call 35; (with_reducible refine (gangsawref49_step.calls a1_0 a1_1 a1_2 t284 _ A23.out).mono ?_); rintro e w27 ⟨rfl, hb⟩; have n0_ := Aside0.mk (blk_below (g := gb278) (o := .cells #[.string a0_0, .string a0_1, .int .i64 a0_2] 34 (0, 0)) (by (with_reducible repeat (first | refine blk_drewN ?_ _ | refine blk_drew ?_ | refine blk_alloc ?_ _)); exact BK278.out) hb); have n1_ := Aside0.mk (blk_below (g := gb279) (o := .cells #[.string a1_0, .int .i64 a1_1, .int .i64 a1_2] 36 (0, 0)) (by (with_reducible repeat (first | refine blk_drewN ?_ _ | refine blk_drew ?_ | refine blk_alloc ?_ _)); exact BK279.out) hb); have n2_ := Aside0.mk (below_step (by repeat (first | (with_reducible first | exact HB.out | apply below_alloc | apply pw_below_drewN | apply below_drew1 | refine below_set ?_ GE278.out | refine below_set ?_ GE279.out) | exact HB.out)) hb); clear BK278; clear BK279; clear HB; have BK278 := n0_; have BK279 := n1_; have HB := n2_; clear n0_ n1_ n2_; (try clear hb); (try clear hb2); (try clear hk); (try clear hi)))
            go_meet
            case rel => exact ⟨_, (!t284), (by first | rfl | (simp; done) | (simp [*]; done)), H', ⟨by have := HJ3.out; first | omega | exact Nat.le_refl _⟩, ⟨by (with_reducible repeat (first | refine blk_drewN ?_ _ | refine blk_drew ?_ | refine blk_alloc ?_ _)); exact BK278.out⟩, ⟨by (with_reducible repeat (first | refine blk_drewN ?_ _ | refine blk_drew ?_ | refine blk_alloc ?_ _)); exact BK279.out⟩, ⟨by repeat (first | (with_reducible first | exact HB.out | apply below_alloc | apply pw_below_drewN | apply below_drew1 | refine below_set ?_ GE278.out | refine below_set ?_ GE279.out) | exact HB.out)⟩⟩
          · replace c22 := Bool.eq_false_iff.mpr c22
            subst c22
            have H1 : (gangsawref49_Minutes.j1 kj3 a2 true a0_0 a0_1 a0_2 a1_0 a1_1 a1_2) = some (r1, r2) := by rw [if_neg (show ¬ (false = true) by decide)] at H; exact H
            clear H
            have H := H1
            clear H1
            have H' := Aside0.mk H
            clear H
            have hnb28 := NB278_279.out
            have hnc28 := NB279_278.out
            have hcz29_0 : wc.cell? ⟨gb278, 0, none⟩ = some (.string a0_0) := (blk_cell BK278.out 0).trans rfl
            have hcz29_1 : wc.cell? ⟨gb278, 1, none⟩ = some (.string a0_1) := (blk_cell BK278.out 1).trans rfl
            have hcz29_2 : wc.cell? ⟨gb278, 2, none⟩ = some (.int .i64 a0_2) := (blk_cell BK278.out 2).trans rfl
            have hfz29_0 := blk_frozen BK278.out 0
            have hfz29_1 := blk_frozen BK278.out 1
            have hfz29_2 := blk_frozen BK278.out 2
            go_wp2_with (first | ((with_reducible refine gate_callee (f := 31) rfl ?_); refine goesL_ (some 26) rfl rfl Try.func31 (by kernel_rfl) rfl #[.int .i64 a0_2, .int .i64 0, .int .i64 100000] rfl (by (try simp only [List.map_toArray, List.map_cons, List.map_nil]); first | done | rfl | (simp only [List.length_drop, List.length_take]; rfl)) ?_; (with_reducible refine (gangsawref49_in.calls a0_2 0 100000 false _ A21.out).mono ?_); rintro e w' ⟨rfl, ⟨nd, rfl⟩⟩; refine ⟨_, rfl, ?_⟩))
            go_meet
            case rel => exact ⟨_, (true), (by first | rfl | (simp; done) | (simp [*]; done)), H', ⟨by have := HJ3.out; first | omega | exact Nat.le_refl _⟩, ⟨by (with_reducible repeat (first | refine blk_drewN ?_ _ | refine blk_drew ?_ | refine blk_alloc ?_ _)); exact BK278.out⟩, ⟨by (with_reducible repeat (first | refine blk_drewN ?_ _ | refine blk_drew ?_ | refine blk_alloc ?_ _)); exact BK279.out⟩, ⟨by repeat (first | (with_reducible first | exact HB.out | apply below_alloc | apply pw_below_drewN | apply below_drew1 | refine below_set ?_ GE278.out | refine below_set ?_ GE279.out) | exact HB.out)⟩⟩
        case rest =>
          clear HC20
          try clear c1
          try clear c2
          try clear p2
          try clear c3
          try clear c8
          try clear c10
          try clear c12
          try clear c15
          try clear c16
          try clear c17
          try clear c19
          try clear c22
          try clear c24
          try clear c28
          try clear hcz13_0
          try clear hcz13_1
          try clear hcz13_2
          try clear hcz14_0
          try clear hcz14_1
          try clear hcz14_2
          try clear hcz16_0
          try clear hcz16_1
          try clear hcz16_2
          try clear hcz18_0
          try clear hcz18_1
          try clear hcz18_2
          try clear hcz25_0
          try clear hcz25_1
          try clear hcz25_2
          try clear hcz26_0
          try clear hcz26_1
          try clear hcz26_2
          try clear hcz29_0
          try clear hcz29_1
          try clear hcz29_2
          try clear hfz13_0
          try clear hfz13_1
          try clear hfz13_2
          try clear hfz14_0
          try clear hfz14_1
          try clear hfz14_2
          try clear hfz16_0
          try clear hfz16_1
          try clear hfz16_2
          try clear hfz18_0
          try clear hfz18_1
          try clear hfz18_2
          try clear hfz25_0
          try clear hfz25_1
          try clear hfz25_2
          try clear hfz26_0
          try clear hfz26_1
          try clear hfz26_2
          try clear hfz29_0
          try clear hfz29_1
          try clear hfz29_2
          try clear p2
          obtain ⟨kq, x32_19, rfl, HA, HJ19, BK278, BK279, HB⟩ := hcut
          cases kq with
          | zero => exact absurd HA.out (by simp [gangsawref49_Minutes.j1])
          | succ kj19 =>
            have H := HA.out
            clear HA
            simp only [gangsawref49_Minutes.j1] at H
            by_cases c30 : x32_19 = true
            · subst c30
              have H1 : (some (0, 6)) = some (r1, r2) := by rw [if_pos rfl] at H; exact H
              clear H
              have H := H1
              clear H1
              simp only [Option.some.injEq, Prod.mk.injEq] at H
              obtain ⟨rfl, rfl⟩ := H
              go_wp2
              go_ret2
              exact ⟨by first | rfl | (simp [errW_none, errW_some] <;> rfl) | (simp [*, errW_none, errW_some] <;> rfl), by repeat (first | (with_reducible first | exact HB.out | apply below_alloc | apply pw_below_drewN | apply below_drew1 | refine below_set ?_ GE278.out | refine below_set ?_ GE279.out) | exact HB.out)⟩
            · replace c30 := Bool.eq_false_iff.mpr c30
              subst c30
              have H1 : (if a0_1.toList = a1_0.toList then (if a2 = true then (some (wrap64 (a0_2 + a1_1), 0)) else (some (a1_1, 0))) else (some (0, 10))) = some (r1, r2) := by rw [if_neg (show ¬ (false = true) by decide)] at H; exact H
              clear H
              have H := H1
              clear H1
              by_cases c31 : a0_1.toList = a1_0.toList
              · rw [if_pos c31] at H
                have c31b0 : (a0_1.toList == a1_0.toList) = true := beq_iff_eq.mpr c31
                have c31b1 : (a0_1.toList != a1_0.toList) = false := bne_eq_false_iff_eq.mpr c31
                clear c31
                by_cases c32 : a2 = true
                · subst c32
                  have H1 : (some (wrap64 (a0_2 + a1_1), 0)) = some (r1, r2) := by rw [if_pos rfl] at H; exact H
                  clear H
                  have H := H1
                  clear H1
                  simp only [Option.some.injEq, Prod.mk.injEq] at H
                  obtain ⟨rfl, rfl⟩ := H
                  have hnb33 := NB278_279.out
                  have hnc33 := NB279_278.out
                  have hcz34_0 : wc.cell? ⟨gb278, 0, none⟩ = some (.string a0_0) := (blk_cell BK278.out 0).trans rfl
                  have hcz34_1 : wc.cell? ⟨gb278, 1, none⟩ = some (.string a0_1) := (blk_cell BK278.out 1).trans rfl
                  have hcz34_2 : wc.cell? ⟨gb278, 2, none⟩ = some (.int .i64 a0_2) := (blk_cell BK278.out 2).trans rfl
                  have hfz34_0 := blk_frozen BK278.out 0
                  have hfz34_1 := blk_frozen BK278.out 1
                  have hfz34_2 := blk_frozen BK278.out 2
                  have hcz35_0 : wc.cell? ⟨gb279, 0, none⟩ = some (.string a1_0) := (blk_cell BK279.out 0).trans rfl
                  have hcz35_1 : wc.cell? ⟨gb279, 1, none⟩ = some (.int .i64 a1_1) := (blk_cell BK279.out 1).trans rfl
                  have hcz35_2 : wc.cell? ⟨gb279, 2, none⟩ = some (.int .i64 a1_2) := (blk_cell BK279.out 2).trans rfl
                  have hfz35_0 := blk_frozen BK279.out 0
                  have hfz35_1 := blk_frozen BK279.out 1
                  have hfz35_2 := blk_frozen BK279.out 2
                  go_wp2
                  go_ret2
                  exact ⟨by first | rfl | (simp [errW_none, errW_some] <;> rfl) | (simp [*, errW_none, errW_some] <;> rfl), by repeat (first | (with_reducible first | exact HB.out | apply below_alloc | apply pw_below_drewN | apply below_drew1 | refine below_set ?_ GE278.out | refine below_set ?_ GE279.out) | exact HB.out)⟩
                · replace c32 := Bool.eq_false_iff.mpr c32
                  subst c32
                  have H1 : (some (a1_1, 0)) = some (r1, r2) := by rw [if_neg (show ¬ (false = true) by decide)] at H; exact H
                  clear H
                  have H := H1
                  clear H1
                  simp only [Option.some.injEq, Prod.mk.injEq] at H
                  obtain ⟨rfl, rfl⟩ := H
                  have hnb36 := NB278_279.out
                  have hnc36 := NB279_278.out
                  have hcz37_0 : wc.cell? ⟨gb278, 0, none⟩ = some (.string a0_0) := (blk_cell BK278.out 0).trans rfl
                  have hcz37_1 : wc.cell? ⟨gb278, 1, none⟩ = some (.string a0_1) := (blk_cell BK278.out 1).trans rfl
                  have hcz37_2 : wc.cell? ⟨gb278, 2, none⟩ = some (.int .i64 a0_2) := (blk_cell BK278.out 2).trans rfl
                  have hfz37_0 := blk_frozen BK278.out 0
                  have hfz37_1 := blk_frozen BK278.out 1
                  have hfz37_2 := blk_frozen BK278.out 2
                  have hcz38_0 : wc.cell? ⟨gb279, 0, none⟩ = some (.string a1_0) := (blk_cell BK279.out 0).trans rfl
                  have hcz38_1 : wc.cell? ⟨gb279, 1, none⟩ = some (.int .i64 a1_1) := (blk_cell BK279.out 1).trans rfl
                  have hcz38_2 : wc.cell? ⟨gb279, 2, none⟩ = some (.int .i64 a1_2) := (blk_cell BK279.out 2).trans rfl
                  have hfz38_0 := blk_frozen BK279.out 0
                  have hfz38_1 := blk_frozen BK279.out 1
                  have hfz38_2 := blk_frozen BK279.out 2
                  go_wp2
                  go_ret2
                  exact ⟨by first | rfl | (simp [errW_none, errW_some] <;> rfl) | (simp [*, errW_none, errW_some] <;> rfl), by repeat (first | (with_reducible first | exact HB.out | apply below_alloc | apply pw_below_drewN | apply below_drew1 | refine below_set ?_ GE278.out | refine below_set ?_ GE279.out) | exact HB.out)⟩
              · rw [if_neg c31] at H
                have c31b0 : (a0_1.toList == a1_0.toList) = false := beq_eq_false_iff_ne.mpr c31
                have c31b1 : (a0_1.toList != a1_0.toList) = true := bne_iff_ne.mpr c31
                simp only [Option.some.injEq, Prod.mk.injEq] at H
                obtain ⟨rfl, rfl⟩ := H
                have hnb39 := NB278_279.out
                have hnc39 := NB279_278.out
                have hcz40_0 : wc.cell? ⟨gb278, 0, none⟩ = some (.string a0_0) := (blk_cell BK278.out 0).trans rfl
                have hcz40_1 : wc.cell? ⟨gb278, 1, none⟩ = some (.string a0_1) := (blk_cell BK278.out 1).trans rfl
                have hcz40_2 : wc.cell? ⟨gb278, 2, none⟩ = some (.int .i64 a0_2) := (blk_cell BK278.out 2).trans rfl
                have hfz40_0 := blk_frozen BK278.out 0
                have hfz40_1 := blk_frozen BK278.out 1
                have hfz40_2 := blk_frozen BK278.out 2
                have hcz41_0 : wc.cell? ⟨gb279, 0, none⟩ = some (.string a1_0) := (blk_cell BK279.out 0).trans rfl
                have hcz41_1 : wc.cell? ⟨gb279, 1, none⟩ = some (.int .i64 a1_1) := (blk_cell BK279.out 1).trans rfl
                have hcz41_2 : wc.cell? ⟨gb279, 2, none⟩ = some (.int .i64 a1_2) := (blk_cell BK279.out 2).trans rfl
                have hfz41_0 := blk_frozen BK279.out 0
                have hfz41_1 := blk_frozen BK279.out 1
                have hfz41_2 := blk_frozen BK279.out 2
                go_wp2
                go_ret2
                exact ⟨by first | rfl | (simp [errW_none, errW_some] <;> rfl) | (simp [*, errW_none, errW_some] <;> rfl), by repeat (first | (with_reducible first | exact HB.out | apply below_alloc | apply pw_below_drewN | apply below_drew1 | refine below_set ?_ GE278.out | refine below_set ?_ GE279.out) | exact HB.out)⟩

end Go.Proofs.Ytpfggghpkdnppaa.P
