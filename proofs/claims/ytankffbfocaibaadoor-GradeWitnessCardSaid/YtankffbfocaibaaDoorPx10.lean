/- What functions of the program return: each contract says so of one function, for every input at which its pure function yields. -/
import Derived.Test.YtankffbfocaibaaDoorPx0
import Derived.Test.YtankffbfocaibaaDoorPx3
import Derived.Test.YtankffbfocaibaaDoorPx6
import Derived.Test.YtankffbfocaibaaDoorPx9
import Derived.Test.YtankffbfocaibaaDoorAwk
namespace Go.Proofs.YtankffbfocaibaaDoor.P
open Go.RowKit Go.Proofs.YtankffbfocaibaaDoorW.PrintWords Go.Proofs.YtankffbfocaibaaDoorW.PrintLast Go.Proofs.YtankffbfocaibaaDoorW.PrintMore
attribute [local go_sem] max2_int min2_int max_two min_two max_three min_three max_four min_four   -- for this text's walks alone
set_option linter.unusedVariables false
set_option linter.unusedSimpArgs false

open Go.Proofs.YtankffbfocaibaaDoor.Awk
def gangsawlaw34_GradeWitness.j0 : Nat → Bool → ByteArray → Int → Int → Int → ByteArray → Int → Int → Int → Option (Bool)
 | 0, _, _, _, _, _, _, _, _, _ => none
 | k + 1, x7, x216000, x216001, x216002, x216003, x217000, x217001, x217002, x217003 => (grade_Witness.f k x216000 x216001 x216002 x216003 x217000 x217001 x217002 x217003 x216001).bind fun bt228 => (if x7 = true then (if bt228.2 = 9 then (some ((bt228.1.length : Int) == 0)) else (some false)) else ((grade_Meets.f k x216000 x216001 x216002 x216003 bt228.1).bind fun bt232 => ((grade_Meets.f k x217000 x217001 x217002 x217003 bt228.1).bind fun bt234 => (if bt228.2 = 0 then (if (bt228.1.length : Int) = x216001 then (if bt232.2 = 0 then (if bt234.2 = 0 then (if bt232.1 = true then (some (!bt234.1)) else (some false)) else (some false)) else (some false)) else (some false)) else (some false)))))
def gangsawlaw34_GradeWitness.f (k : Nat) (a0_0 : ByteArray) (a0_1 : Int) (a0_2 : Int) (a0_3 : Int) (a1_0 : ByteArray) (a1_1 : Int) (a1_2 : Int) (a1_3 : Int) (a2 : Int) : Option (Bool) := (gangsawlaw34_awake.f).bind fun t217 => (if t217 = true then ((grade_Implies.f k a0_0 a0_1 a0_2 a0_3 a1_0 a1_1 a1_2 a1_3).bind fun bt218 => (if bt218.2 = 0 then ((grade_Witness.f k a0_0 a0_1 a0_2 a0_3 a1_0 a1_1 a1_2 a1_3 a2).bind fun bt220 => (if bt220.2 = 0 then ((grade_Meets.f k a0_0 a0_1 a0_2 a0_3 bt220.1).bind fun bt224 => ((grade_Meets.f k a1_0 a1_1 a1_2 a1_3 bt220.1).bind fun bt226 => (if bt218.1 = true then (some false) else (if (bt220.1.length : Int) = a2 then (if bt224.2 = 0 then (if bt226.2 = 0 then (if bt224.1 = true then (if bt226.1 = true then (some false) else (gangsawlaw34_GradeWitness.j0 k bt218.1 a0_0 a0_1 a0_2 a0_3 a1_0 a1_1 a1_2 a1_3)) else (some false)) else (some false)) else (some false)) else (some false))))) else (gangsawlaw34_GradeWitness.j0 k bt218.1 a0_0 a0_1 a0_2 a0_3 a1_0 a1_1 a1_2 a1_3))) else (some (!bt218.1)))) else (some false))
theorem gangsawlaw34_GradeWitness.mono_l : ∀ k, (∀ y0 y1 y2 y3 y4 y5 y6 y7 y8, LeO (gangsawlaw34_GradeWitness.j0 k y0 y1 y2 y3 y4 y5 y6 y7 y8) (gangsawlaw34_GradeWitness.j0 (k + 1) y0 y1 y2 y3 y4 y5 y6 y7 y8))
 | 0 => fun _ _ _ _ _ _ _ _ _ r h => by simp [gangsawlaw34_GradeWitness.j0] at h
 | k + 1 => by
  have ih0 := gangsawlaw34_GradeWitness.mono_l k
  ·intro y0 y1 y2 y3 y4 y5 y6 y7 y8
   unfold gangsawlaw34_GradeWitness.j0
   repeat' first
   | (with_reducible exact ih0 _ _ _ _ _ _ _ _ _)
   | (with_reducible exact grade_Implies.mono _ _ _ _ _ _ _ _ _)
   | (with_reducible exact grade_Meets.mono _ _ _ _ _ _)
   | (with_reducible exact grade_Witness.mono _ _ _ _ _ _ _ _ _ _)
   | (with_reducible refine contains32.mono2 (fun x_ => ?_))
   | (with_reducible refine contains46.mono2 (fun x_ => ?_))
   | (with_reducible refine index32.mono2 (fun x_ => ?_))
   | (with_reducible refine index46.mono2 (fun x_ => ?_))
   | (with_reducible exact LeO.refl _)
   | (with_reducible exact LeO.none _)
   | (with_reducible refine LeO.ite ?_ ?_)
   | (with_reducible refine LeO.bind ?_ (fun _ => ?_))
   | exact ih0 _ _ _ _ _ _ _ _ _
   | exact grade_Implies.mono _ _ _ _ _ _ _ _ _
   | exact grade_Meets.mono _ _ _ _ _ _
   | exact grade_Witness.mono _ _ _ _ _ _ _ _ _ _
   | exact LeO.none _
   | refine LeO.ite ?_ ?_
   | refine LeO.bind ?_ (fun _ => ?_)
theorem gangsawlaw34_GradeWitness.mono : ∀ a0 a1 a2 a3 a4 a5 a6 a7 a8 k, LeO (gangsawlaw34_GradeWitness.f k a0 a1 a2 a3 a4 a5 a6 a7 a8) (gangsawlaw34_GradeWitness.f (k + 1) a0 a1 a2 a3 a4 a5 a6 a7 a8) := by
 intro a0 a1 a2 a3 a4 a5 a6 a7 a8 k
 have ih0 := gangsawlaw34_GradeWitness.mono_l k
 unfold gangsawlaw34_GradeWitness.f
 repeat' first
   | (with_reducible exact ih0 _ _ _ _ _ _ _ _ _)
   | (with_reducible exact grade_Implies.mono _ _ _ _ _ _ _ _ _)
   | (with_reducible exact grade_Meets.mono _ _ _ _ _ _)
   | (with_reducible exact grade_Witness.mono _ _ _ _ _ _ _ _ _ _)
   | (with_reducible refine contains32.mono2 (fun x_ => ?_))
   | (with_reducible refine contains46.mono2 (fun x_ => ?_))
   | (with_reducible refine index32.mono2 (fun x_ => ?_))
   | (with_reducible refine index46.mono2 (fun x_ => ?_))
   | (with_reducible exact LeO.refl _)
   | (with_reducible exact LeO.none _)
   | (with_reducible refine LeO.ite ?_ ?_)
   | (with_reducible refine LeO.bind ?_ (fun _ => ?_))
   | exact ih0 _ _ _ _ _ _ _ _ _
   | exact grade_Implies.mono _ _ _ _ _ _ _ _ _
   | exact grade_Meets.mono _ _ _ _ _ _
   | exact grade_Witness.mono _ _ _ _ _ _ _ _ _ _
   | exact LeO.none _
   | refine LeO.ite ?_ ?_
   | refine LeO.bind ?_ (fun _ => ?_)
set_option maxHeartbeats 8000000 in
set_option maxRecDepth 100000 in
theorem gangsawlaw34_GradeWitness.calls (k : Nat) (a0_0 : ByteArray) (a0_1 : Int) (a0_2 : Int) (a0_3 : Int) (a1_0 : ByteArray) (a1_1 : Int) (a1_2 : Int) (a1_3 : Int) (a2 : Int) (r : Bool) (w : World) {w0 : World} (hf0 : LaidAt w0) (hb0 : Below w0.heap.size w0 w) (h : gangsawlaw34_GradeWitness.f k a0_0 a0_1 a0_2 a0_3 a1_0 a1_1 a1_2 a1_3 a2 = some r) (hr : r = true) :
  Calls Tryd.prog 6 #[.agg #[.string a0_0, .int .i64 a0_1, .int .i64 a0_2, .int .i64 a0_3], .agg #[.string a1_0, .int .i64 a1_1, .int .i64 a1_2, .int .i64 a1_3], .int .i64 a2] w fun e w' => e = .returned (.bool r) ∧ Below w.heap.size w w' := by
 have HLD := Aside0.mk (hf0.below hb0)
 clear hf0 hb0
 have hu32 := Tryd.underlying32
 have HB := Aside0.mk (Below.refl w.heap.size w)
 have H : ((gangsawlaw34_awake.f).bind fun t217 => (if t217 = true then ((grade_Implies.f k a0_0 a0_1 a0_2 a0_3 a1_0 a1_1 a1_2 a1_3).bind fun bt218 => (if bt218.2 = 0 then ((grade_Witness.f k a0_0 a0_1 a0_2 a0_3 a1_0 a1_1 a1_2 a1_3 a2).bind fun bt220 => (if bt220.2 = 0 then ((grade_Meets.f k a0_0 a0_1 a0_2 a0_3 bt220.1).bind fun bt224 => ((grade_Meets.f k a1_0 a1_1 a1_2 a1_3 bt220.1).bind fun bt226 => (if bt218.1 = true then (some false) else (if (bt220.1.length : Int) = a2 then (if bt224.2 = 0 then (if bt226.2 = 0 then (if bt224.1 = true then (if bt226.1 = true then (some false) else (gangsawlaw34_GradeWitness.j0 k bt218.1 a0_0 a0_1 a0_2 a0_3 a1_0 a1_1 a1_2 a1_3)) else (some false)) else (some false)) else (some false)) else (some false))))) else (gangsawlaw34_GradeWitness.j0 k bt218.1 a0_0 a0_1 a0_2 a0_3 a1_0 a1_1 a1_2 a1_3))) else (some (!bt218.1)))) else (some false))) = some r := h
 clear h
 replace H := Option.bind_eq_some_iff.mp H
 obtain ⟨t217, A40, H⟩ := H
 replace H : (if t217 = true then ((grade_Implies.f k a0_0 a0_1 a0_2 a0_3 a1_0 a1_1 a1_2 a1_3).bind fun bt218 => (if bt218.2 = 0 then ((grade_Witness.f k a0_0 a0_1 a0_2 a0_3 a1_0 a1_1 a1_2 a1_3 a2).bind fun bt220 => (if bt220.2 = 0 then ((grade_Meets.f k a0_0 a0_1 a0_2 a0_3 bt220.1).bind fun bt224 => ((grade_Meets.f k a1_0 a1_1 a1_2 a1_3 bt220.1).bind fun bt226 => (if bt218.1 = true then (some false) else (if (bt220.1.length : Int) = a2 then (if bt224.2 = 0 then (if bt226.2 = 0 then (if bt224.1 = true then (if bt226.1 = true then (some false) else (gangsawlaw34_GradeWitness.j0 k bt218.1 a0_0 a0_1 a0_2 a0_3 a1_0 a1_1 a1_2 a1_3)) else (some false)) else (some false)) else (some false)) else (some false))))) else (gangsawlaw34_GradeWitness.j0 k bt218.1 a0_0 a0_1 a0_2 a0_3 a1_0 a1_1 a1_2 a1_3))) else (some (!bt218.1)))) else (some false)) = some r := H
 have A4 := Aside0.mk A40
 clear A40
 by_cases c5 : t217 = true
 ·subst c5
  have H1 : ((grade_Implies.f k a0_0 a0_1 a0_2 a0_3 a1_0 a1_1 a1_2 a1_3).bind fun bt218 => (if bt218.2 = 0 then ((grade_Witness.f k a0_0 a0_1 a0_2 a0_3 a1_0 a1_1 a1_2 a1_3 a2).bind fun bt220 => (if bt220.2 = 0 then ((grade_Meets.f k a0_0 a0_1 a0_2 a0_3 bt220.1).bind fun bt224 => ((grade_Meets.f k a1_0 a1_1 a1_2 a1_3 bt220.1).bind fun bt226 => (if bt218.1 = true then (some false) else (if (bt220.1.length : Int) = a2 then (if bt224.2 = 0 then (if bt226.2 = 0 then (if bt224.1 = true then (if bt226.1 = true then (some false) else (gangsawlaw34_GradeWitness.j0 k bt218.1 a0_0 a0_1 a0_2 a0_3 a1_0 a1_1 a1_2 a1_3)) else (some false)) else (some false)) else (some false)) else (some false))))) else (gangsawlaw34_GradeWitness.j0 k bt218.1 a0_0 a0_1 a0_2 a0_3 a1_0 a1_1 a1_2 a1_3))) else (some (!bt218.1)))) = some r := by rw [if_pos rfl] at H; exact H
  clear H
  have H := H1
  clear H1
  replace H := Option.bind_eq_some_iff.mp H
  obtain ⟨⟨t218, t219⟩, A60, H⟩ := H
  replace H : (if t219 = 0 then ((grade_Witness.f k a0_0 a0_1 a0_2 a0_3 a1_0 a1_1 a1_2 a1_3 a2).bind fun bt220 => (if bt220.2 = 0 then ((grade_Meets.f k a0_0 a0_1 a0_2 a0_3 bt220.1).bind fun bt224 => ((grade_Meets.f k a1_0 a1_1 a1_2 a1_3 bt220.1).bind fun bt226 => (if t218 = true then (some false) else (if (bt220.1.length : Int) = a2 then (if bt224.2 = 0 then (if bt226.2 = 0 then (if bt224.1 = true then (if bt226.1 = true then (some false) else (gangsawlaw34_GradeWitness.j0 k t218 a0_0 a0_1 a0_2 a0_3 a1_0 a1_1 a1_2 a1_3)) else (some false)) else (some false)) else (some false)) else (some false))))) else (gangsawlaw34_GradeWitness.j0 k t218 a0_0 a0_1 a0_2 a0_3 a1_0 a1_1 a1_2 a1_3))) else (some (!t218))) = some r := H
  have A6 := Aside0.mk A60
  clear A60
  by_cases c7 : t219 = 0
  ·rw [if_pos c7] at H
   have c7b0 : (t219 == 0) = true := beq_iff_eq.mpr c7
   have c7b1 : (t219 != 0) = false := bne_eq_false_iff_eq.mpr c7
   clear c7
   replace H := Option.bind_eq_some_iff.mp H
   obtain ⟨⟨t220, t223⟩, A80, H⟩ := H
   replace H : (if t223 = 0 then ((grade_Meets.f k a0_0 a0_1 a0_2 a0_3 t220).bind fun bt224 => ((grade_Meets.f k a1_0 a1_1 a1_2 a1_3 t220).bind fun bt226 => (if t218 = true then (some false) else (if (t220.length : Int) = a2 then (if bt224.2 = 0 then (if bt226.2 = 0 then (if bt224.1 = true then (if bt226.1 = true then (some false) else (gangsawlaw34_GradeWitness.j0 k t218 a0_0 a0_1 a0_2 a0_3 a1_0 a1_1 a1_2 a1_3)) else (some false)) else (some false)) else (some false)) else (some false))))) else (gangsawlaw34_GradeWitness.j0 k t218 a0_0 a0_1 a0_2 a0_3 a1_0 a1_1 a1_2 a1_3)) = some r := H
   have A8 := Aside0.mk A80
   clear A80
   have HC9 := Aside0.mk H
   clear H
   go_enter Tryd.func6, Tryd.ntmps6
   go_upto_if 39 with (first | ((with_reducible refine gate_dst (N := 3) rfl ?_); (try (refine gate_guard (by rfl) ?_; dsimp only)); refine box_event ?hg (N := 3) ?hd (cs := #[.string a0_0, .int .i64 a0_1, .int .i64 a0_2, .int .i64 a0_3]) (t := 32) ?hr ?_; (case hd => rfl); (case hg => rfl); (case hr => first | (go_simp; done) | (go_simp; rfl)); intro gb215 hg w10 hbox hb; have n0_ := Aside0.mk (below_step (by repeat (first | (with_reducible first | exact HB.out | apply below_alloc | apply pw_below_drewN | apply below_drew1) | exact HB.out)) hb); have n1_ := Aside0.mk (hbox); have n2_ := Aside0.mk ((by rw [hg]; exact (below_size (by repeat (first | (with_reducible first | exact HB.out | apply below_alloc | apply pw_below_drewN | apply below_drew1) | exact HB.out))) : w.heap.size ≤ gb215)); have n3_ := Aside0.mk ((by rw [hg]; exact (below_size (by repeat (first | (with_reducible first | exact HB.out | apply below_alloc | apply pw_below_drewN | apply below_drew1) | exact HB.out))) : w.heap.size ≤ gb215)); clear HB; have HB := n0_; have BK215 := n1_; have GW215 := n2_; have GE215 := n3_; clear n0_ n1_ n2_ n3_; clear hb hbox hg) | ((with_reducible refine gate_dst (N := 4) rfl ?_); (try (refine gate_guard (by rfl) ?_; dsimp only)); refine box_event ?hg (N := 4) ?hd (cs := #[.string a1_0, .int .i64 a1_1, .int .i64 a1_2, .int .i64 a1_3]) (t := 32) ?hr ?_; (case hd => rfl); (case hg => rfl); (case hr => first | (go_simp; done) | (go_simp; rfl)); intro gb216 hg w11 hbox hb; have n0_ := Aside0.mk (blk_below (g := gb215) (o := .cells #[.string a0_0, .int .i64 a0_1, .int .i64 a0_2, .int .i64 a0_3] 32 (0, 0)) (by (with_reducible repeat (first | refine blk_drewN ?_ _ | refine blk_drew ?_ | refine blk_alloc ?_ _)); exact BK215.out) hb); have n1_ := Aside0.mk (below_step (by repeat (first | (with_reducible first | exact HB.out | apply below_alloc | apply pw_below_drewN | apply below_drew1 | refine below_set ?_ GE215.out) | exact HB.out)) hb); have n2_ := Aside0.mk (hbox); have n3_ := Aside0.mk ((by rw [hg]; exact (below_size (by repeat (first | (with_reducible first | exact HB.out | apply below_alloc | apply pw_below_drewN | apply below_drew1 | refine below_set ?_ GE215.out) | exact HB.out))) : w.heap.size ≤ gb216)); have n4_ := Aside0.mk ((by rw [hg]; exact (below_size (by repeat (first | (with_reducible first | exact HB.out | apply below_alloc | apply pw_below_drewN | apply below_drew1 | refine below_set ?_ GE215.out) | exact HB.out))) : w.heap.size ≤ gb216)); have n5_ := Aside0.mk ((by rw [hg]; exact Nat.ne_of_lt (blk_lt (g := gb215) (o := .cells #[.string a0_0, .int .i64 a0_1, .int .i64 a0_2, .int .i64 a0_3] 32 (0, 0)) (by (with_reducible repeat (first | refine blk_drewN ?_ _ | refine blk_drew ?_ | refine blk_alloc ?_ _)); exact BK215.out)) : gb215 ≠ gb216)); have n6_ := Aside0.mk ((by rw [hg]; exact Nat.ne_of_gt (blk_lt (g := gb215) (o := .cells #[.string a0_0, .int .i64 a0_1, .int .i64 a0_2, .int .i64 a0_3] 32 (0, 0)) (by (with_reducible repeat (first | refine blk_drewN ?_ _ | refine blk_drew ?_ | refine blk_alloc ?_ _)); exact BK215.out)) : gb216 ≠ gb215)); clear BK215; clear HB; have BK215 := n0_; have HB := n1_; have BK216 := n2_; have GW216 := n3_; have GE216 := n4_; have NB215_216 := n5_; have NB216_215 := n6_; clear n0_ n1_ n2_ n3_ n4_ n5_ n6_; clear hb hbox hg) | ((with_reducible refine gate_callee (f := 9) rfl ?_); refine goesL_ (some 19) rfl rfl Tryd.func9 (by kernel_rfl) rfl #[] rfl (by (try simp only [List.map_toArray, List.map_cons, List.map_nil]); first | done | rfl | (simp only [List.length_drop, List.length_take]; rfl)) ?_; (with_reducible refine (gangsawlaw34_awake.calls  true _ HLD.out (by repeat (first | (with_reducible first | exact HB.out | apply below_alloc | apply pw_below_drewN | apply below_drew1 | refine below_set ?_ GE215.out | refine below_set ?_ GE216.out) | exact HB.out)) A4.out).mono ?_); rintro e w12 ⟨rfl, hb⟩; refine ⟨_, rfl, ?_⟩; have n0_ := Aside0.mk (blk_below (g := gb215) (o := .cells #[.string a0_0, .int .i64 a0_1, .int .i64 a0_2, .int .i64 a0_3] 32 (0, 0)) (by (with_reducible repeat (first | refine blk_drewN ?_ _ | refine blk_drew ?_ | refine blk_alloc ?_ _)); exact BK215.out) hb); have n1_ := Aside0.mk (blk_below (g := gb216) (o := .cells #[.string a1_0, .int .i64 a1_1, .int .i64 a1_2, .int .i64 a1_3] 32 (0, 0)) (by (with_reducible repeat (first | refine blk_drewN ?_ _ | refine blk_drew ?_ | refine blk_alloc ?_ _)); exact BK216.out) hb); have n2_ := Aside0.mk (below_step (by repeat (first | (with_reducible first | exact HB.out | apply below_alloc | apply pw_below_drewN | apply below_drew1 | refine below_set ?_ GE215.out | refine below_set ?_ GE216.out) | exact HB.out)) hb); clear BK215; clear BK216; clear HB; have BK215 := n0_; have BK216 := n1_; have HB := n2_; clear n0_ n1_ n2_; (try clear hb); (try clear hb2); (try clear hk); (try clear hi); have hnb13 := NB215_216.out; have hnc13 := NB216_215.out; have hcz14_0 : w12.cell? ⟨gb215, 0, none⟩ = some (.string a0_0) := (blk_cell BK215.out 0).trans rfl; have hcz14_1 : w12.cell? ⟨gb215, 1, none⟩ = some (.int .i64 a0_1) := (blk_cell BK215.out 1).trans rfl; have hcz14_2 : w12.cell? ⟨gb215, 2, none⟩ = some (.int .i64 a0_2) := (blk_cell BK215.out 2).trans rfl; have hcz14_3 : w12.cell? ⟨gb215, 3, none⟩ = some (.int .i64 a0_3) := (blk_cell BK215.out 3).trans rfl; have hfz14_0 := blk_frozen BK215.out 0; have hfz14_1 := blk_frozen BK215.out 1; have hfz14_2 := blk_frozen BK215.out 2; have hfz14_3 := blk_frozen BK215.out 3; have hcz15_0 : w12.cell? ⟨gb216, 0, none⟩ = some (.string a1_0) := (blk_cell BK216.out 0).trans rfl; have hcz15_1 : w12.cell? ⟨gb216, 1, none⟩ = some (.int .i64 a1_1) := (blk_cell BK216.out 1).trans rfl; have hcz15_2 : w12.cell? ⟨gb216, 2, none⟩ = some (.int .i64 a1_2) := (blk_cell BK216.out 2).trans rfl; have hcz15_3 : w12.cell? ⟨gb216, 3, none⟩ = some (.int .i64 a1_3) := (blk_cell BK216.out 3).trans rfl; have hfz15_0 := blk_frozen BK216.out 0; have hfz15_1 := blk_frozen BK216.out 1; have hfz15_2 := blk_frozen BK216.out 2; have hfz15_3 := blk_frozen BK216.out 3) | ((with_reducible refine gate_callee (f := 20) rfl ?_); refine goesL_ (some 24) rfl rfl Tryd.func20 (by kernel_rfl) rfl #[.agg #[.string a0_0, .int .i64 a0_1, .int .i64 a0_2, .int .i64 a0_3], .agg #[.string a1_0, .int .i64 a1_1, .int .i64 a1_2, .int .i64 a1_3]] rfl (by (try simp only [List.map_toArray, List.map_cons, List.map_nil]); first | done | rfl | (simp only [List.length_drop, List.length_take]; rfl)) ?_; (with_reducible refine (grade_Implies.calls k a0_0 a0_1 a0_2 a0_3 a1_0 a1_1 a1_2 a1_3 t218 t219 _ HLD.out (by repeat (first | (with_reducible first | exact HB.out | apply below_alloc | apply pw_below_drewN | apply below_drew1 | refine below_set ?_ GE215.out | refine below_set ?_ GE216.out) | exact HB.out)) A6.out).mono ?_); rintro e w16 ⟨rfl, hb⟩; refine ⟨_, rfl, ?_⟩; have n0_ := Aside0.mk (blk_below (g := gb215) (o := .cells #[.string a0_0, .int .i64 a0_1, .int .i64 a0_2, .int .i64 a0_3] 32 (0, 0)) (by (with_reducible repeat (first | refine blk_drewN ?_ _ | refine blk_drew ?_ | refine blk_alloc ?_ _)); exact BK215.out) hb); have n1_ := Aside0.mk (blk_below (g := gb216) (o := .cells #[.string a1_0, .int .i64 a1_1, .int .i64 a1_2, .int .i64 a1_3] 32 (0, 0)) (by (with_reducible repeat (first | refine blk_drewN ?_ _ | refine blk_drew ?_ | refine blk_alloc ?_ _)); exact BK216.out) hb); have n2_ := Aside0.mk (below_step (by repeat (first | (with_reducible first | exact HB.out | apply below_alloc | apply pw_below_drewN | apply below_drew1 | refine below_set ?_ GE215.out | refine below_set ?_ GE216.out) | exact HB.out)) hb); clear BK215; clear BK216; clear HB; have BK215 := n0_; have BK216 := n1_; have HB := n2_; clear n0_ n1_ n2_; (try clear hb); (try clear hb2); (try clear hk); (try clear hi); have hcz17_0 : w16.cell? ⟨gb215, 0, none⟩ = some (.string a0_0) := (blk_cell BK215.out 0).trans rfl; have hcz17_1 : w16.cell? ⟨gb215, 1, none⟩ = some (.int .i64 a0_1) := (blk_cell BK215.out 1).trans rfl; have hcz17_2 : w16.cell? ⟨gb215, 2, none⟩ = some (.int .i64 a0_2) := (blk_cell BK215.out 2).trans rfl; have hcz17_3 : w16.cell? ⟨gb215, 3, none⟩ = some (.int .i64 a0_3) := (blk_cell BK215.out 3).trans rfl; have hfz17_0 := blk_frozen BK215.out 0; have hfz17_1 := blk_frozen BK215.out 1; have hfz17_2 := blk_frozen BK215.out 2; have hfz17_3 := blk_frozen BK215.out 3; have hcz18_0 : w16.cell? ⟨gb216, 0, none⟩ = some (.string a1_0) := (blk_cell BK216.out 0).trans rfl; have hcz18_1 : w16.cell? ⟨gb216, 1, none⟩ = some (.int .i64 a1_1) := (blk_cell BK216.out 1).trans rfl; have hcz18_2 : w16.cell? ⟨gb216, 2, none⟩ = some (.int .i64 a1_2) := (blk_cell BK216.out 2).trans rfl; have hcz18_3 : w16.cell? ⟨gb216, 3, none⟩ = some (.int .i64 a1_3) := (blk_cell BK216.out 3).trans rfl; have hfz18_0 := blk_frozen BK216.out 0; have hfz18_1 := blk_frozen BK216.out 1; have hfz18_2 := blk_frozen BK216.out 2; have hfz18_3 := blk_frozen BK216.out 3) | ((with_reducible refine gate_callee (f := 22) rfl ?_); refine goesL_ (some 35) rfl rfl Tryd.func22 (by kernel_rfl) rfl #[.agg #[.string a0_0, .int .i64 a0_1, .int .i64 a0_2, .int .i64 a0_3], .agg #[.string a1_0, .int .i64 a1_1, .int .i64 a1_2, .int .i64 a1_3], .int .i64 a2] rfl (by (try simp only [List.map_toArray, List.map_cons, List.map_nil]); first | done | rfl | (simp only [List.length_drop, List.length_take]; rfl)) ?_; (with_reducible refine (grade_Witness.calls k a0_0 a0_1 a0_2 a0_3 a1_0 a1_1 a1_2 a1_3 a2 t220 t223 _ HLD.out (by repeat (first | (with_reducible first | exact HB.out | apply below_alloc | apply pw_below_drewN | apply below_drew1 | refine below_set ?_ GE215.out | refine below_set ?_ GE216.out) | exact HB.out)) A8.out).mono ?_); rintro e w19 ⟨v221, rfl, ho0, hb⟩; refine ⟨_, rfl, ?_⟩; have n0_ := Aside0.mk (Kd.R_lower ho0 (below_size (by repeat (first | (with_reducible first | exact HB.out | apply below_alloc | apply pw_below_drewN | apply below_drew1 | refine below_set ?_ GE215.out | refine below_set ?_ GE216.out) | exact HB.out)))); have n1_ := Aside0.mk (blk_below (g := gb215) (o := .cells #[.string a0_0, .int .i64 a0_1, .int .i64 a0_2, .int .i64 a0_3] 32 (0, 0)) (by (with_reducible repeat (first | refine blk_drewN ?_ _ | refine blk_drew ?_ | refine blk_alloc ?_ _)); exact BK215.out) hb); have n2_ := Aside0.mk (blk_below (g := gb216) (o := .cells #[.string a1_0, .int .i64 a1_1, .int .i64 a1_2, .int .i64 a1_3] 32 (0, 0)) (by (with_reducible repeat (first | refine blk_drewN ?_ _ | refine blk_drew ?_ | refine blk_alloc ?_ _)); exact BK216.out) hb); have n3_ := Aside0.mk (below_step (by repeat (first | (with_reducible first | exact HB.out | apply below_alloc | apply pw_below_drewN | apply below_drew1 | refine below_set ?_ GE215.out | refine below_set ?_ GE216.out) | exact HB.out)) hb); clear BK215; clear BK216; clear HB; have HO222 := n0_; have BK215 := n1_; have BK216 := n2_; have HB := n3_; clear n0_ n1_ n2_ n3_; (try clear hb); (try clear hb2); (try clear hk); (try clear hi); (try clear ho0)))
   (try simp only [Act.put, List.setIfInBounds_toArray, List.set_cons_zero, List.set_cons_succ])
   go_cut [] (fun wc => ∃ (kq : Nat), Aside0 (gangsawlaw34_GradeWitness.j0 kq t218 a0_0 a0_1 a0_2 a0_3 a1_0 a1_1 a1_2 a1_3 = some r) ∧ Aside0 (kq ≤ k) ∧ Aside0 (wc.heap[gb215]? = some (.cells #[.string a0_0, .int .i64 a0_1, .int .i64 a0_2, .int .i64 a0_3] 32 (0, 0))) ∧ Aside0 (wc.heap[gb216]? = some (.cells #[.string a1_0, .int .i64 a1_1, .int .i64 a1_2, .int .i64 a1_3] 32 (0, 0))) ∧ Aside0 (Below w.heap.size w wc))
   case first =>
    have H := HC9.out
    clear HC9
    by_cases c20 : t223 = 0
    ·rw [if_pos c20] at H
     have c20b0 : (t223 == 0) = true := beq_iff_eq.mpr c20
     have c20b1 : (t223 != 0) = false := bne_eq_false_iff_eq.mpr c20
     clear c20
     (first | rw [c20b0] | (simp only [i64_w, i32_w]; rw [c20b0]) | skip)
     replace H := Option.bind_eq_some_iff.mp H
     obtain ⟨⟨t224, t225⟩, A210, H⟩ := H
     replace H : ((grade_Meets.f k a1_0 a1_1 a1_2 a1_3 t220).bind fun bt226 => (if t218 = true then (some false) else (if (t220.length : Int) = a2 then (if t225 = 0 then (if bt226.2 = 0 then (if t224 = true then (if bt226.1 = true then (some false) else (gangsawlaw34_GradeWitness.j0 k t218 a0_0 a0_1 a0_2 a0_3 a1_0 a1_1 a1_2 a1_3)) else (some false)) else (some false)) else (some false)) else (some false)))) = some r := H
     have A21 := Aside0.mk A210
     clear A210
     replace H := Option.bind_eq_some_iff.mp H
     obtain ⟨⟨t226, t227⟩, A220, H⟩ := H
     replace H : (if t218 = true then (some false) else (if (t220.length : Int) = a2 then (if t225 = 0 then (if t227 = 0 then (if t224 = true then (if t226 = true then (some false) else (gangsawlaw34_GradeWitness.j0 k t218 a0_0 a0_1 a0_2 a0_3 a1_0 a1_1 a1_2 a1_3)) else (some false)) else (some false)) else (some false)) else (some false))) = some r := H
     have A22 := Aside0.mk A220
     clear A220
     by_cases c23 : t218 = true
     ·subst c23
      have H1 : (some false) = some r := by rw [if_pos rfl] at H; exact H
      clear H
      have H := H1
      clear H1
      obtain rfl := Option.some.inj H
      exact absurd hr (by decide)
     ·replace c23 := Bool.eq_false_iff.mpr c23
      subst c23
      have H1 : (if (t220.length : Int) = a2 then (if t225 = 0 then (if t227 = 0 then (if t224 = true then (if t226 = true then (some false) else (gangsawlaw34_GradeWitness.j0 k false a0_0 a0_1 a0_2 a0_3 a1_0 a1_1 a1_2 a1_3)) else (some false)) else (some false)) else (some false)) else (some false)) = some r := by rw [if_neg (show ¬ (false = true) by decide)] at H; exact H
      clear H
      have H := H1
      clear H1
      by_cases c24 : (t220.length : Int) = a2
      ·rw [if_pos c24] at H
       have c24b0 : ((t220.length : Int) == a2) = true := beq_iff_eq.mpr c24
       have c24b1 : ((t220.length : Int) != a2) = false := bne_eq_false_iff_eq.mpr c24
       clear c24
       by_cases c25 : t225 = 0
       ·rw [if_pos c25] at H
        have c25b0 : (t225 == 0) = true := beq_iff_eq.mpr c25
        have c25b1 : (t225 != 0) = false := bne_eq_false_iff_eq.mpr c25
        clear c25
        by_cases c26 : t227 = 0
        ·rw [if_pos c26] at H
         have c26b0 : (t227 == 0) = true := beq_iff_eq.mpr c26
         have c26b1 : (t227 != 0) = false := bne_eq_false_iff_eq.mpr c26
         clear c26
         by_cases c27 : t224 = true
         ·subst c27
          have H1 : (if t226 = true then (some false) else (gangsawlaw34_GradeWitness.j0 k false a0_0 a0_1 a0_2 a0_3 a1_0 a1_1 a1_2 a1_3)) = some r := by rw [if_pos rfl] at H; exact H
          clear H
          have H := H1
          clear H1
          by_cases c28 : t226 = true
          ·subst c28
           have H1 : (some false) = some r := by rw [if_pos rfl] at H; exact H
           clear H
           have H := H1
           clear H1
           obtain rfl := Option.some.inj H
           exact absurd hr (by decide)
          ·replace c28 := Bool.eq_false_iff.mpr c28
           subst c28
           have H1 : (gangsawlaw34_GradeWitness.j0 k false a0_0 a0_1 a0_2 a0_3 a1_0 a1_1 a1_2 a1_3) = some r := by rw [if_neg (show ¬ (false = true) by decide)] at H; exact H
           clear H
           have H := H1
           clear H1
           have H' := Aside0.mk H
           clear H
           have hnb29 := NB215_216.out
           have hnc29 := NB216_215.out
           have hcz30_0 : w19.cell? ⟨gb215, 0, none⟩ = some (.string a0_0) := (blk_cell BK215.out 0).trans rfl
           have hcz30_1 : w19.cell? ⟨gb215, 1, none⟩ = some (.int .i64 a0_1) := (blk_cell BK215.out 1).trans rfl
           have hcz30_2 : w19.cell? ⟨gb215, 2, none⟩ = some (.int .i64 a0_2) := (blk_cell BK215.out 2).trans rfl
           have hcz30_3 : w19.cell? ⟨gb215, 3, none⟩ = some (.int .i64 a0_3) := (blk_cell BK215.out 3).trans rfl
           have hfz30_0 := blk_frozen BK215.out 0
           have hfz30_1 := blk_frozen BK215.out 1
           have hfz30_2 := blk_frozen BK215.out 2
           have hfz30_3 := blk_frozen BK215.out 3
           obtain ⟨Ao31, co31, eo31⟩ := Kd.R_slice HO222.out
           subst eo31
           go_wp2_with (first | ((with_reducible refine gate_callee (f := 14) rfl ?_); refine goesL_ (some 43) rfl rfl Tryd.func14 (by kernel_rfl) rfl #[.agg #[.string a0_0, .int .i64 a0_1, .int .i64 a0_2, .int .i64 a0_3], .slice Ao31 t220.length co31] rfl (by (try simp only [List.map_toArray, List.map_cons, List.map_nil]); first | done | rfl | (simp only [List.length_drop, List.length_take]; rfl)) ?_; (with_reducible refine (grade_Meets.calls k a0_0 a0_1 a0_2 a0_3 _ _ t220 true t225 _ ?side1 ?side2 A21.out).mono ?_); (case side1 => repeat (first | exact (Kd.R_reads' HO222.out).2.2 | (with_reducible refine Kd.C_alloc ?_ _) | (with_reducible refine Kd.C_drewN ?_ _) | (with_reducible refine Kd.C_drew ?_))); (case side2 => exact (Kd.R_reads' HO222.out).2.1); rintro e w32 ⟨rfl, hb⟩; refine ⟨_, rfl, ?_⟩; have n0_ := Aside0.mk (Kd.R_below (by (with_reducible repeat (first | apply Kd.R_alloc | apply Kd.R_drewN | apply Kd.R_drew)); exact HO222.out) hb); have n1_ := Aside0.mk (blk_below (g := gb215) (o := .cells #[.string a0_0, .int .i64 a0_1, .int .i64 a0_2, .int .i64 a0_3] 32 (0, 0)) (by (with_reducible repeat (first | refine blk_drewN ?_ _ | refine blk_drew ?_ | refine blk_alloc ?_ _)); exact BK215.out) hb); have n2_ := Aside0.mk (blk_below (g := gb216) (o := .cells #[.string a1_0, .int .i64 a1_1, .int .i64 a1_2, .int .i64 a1_3] 32 (0, 0)) (by (with_reducible repeat (first | refine blk_drewN ?_ _ | refine blk_drew ?_ | refine blk_alloc ?_ _)); exact BK216.out) hb); have n3_ := Aside0.mk (below_step (by repeat (first | (with_reducible first | exact HB.out | apply below_alloc | apply pw_below_drewN | apply below_drew1 | refine below_set ?_ GE215.out | refine below_set ?_ GE216.out) | exact HB.out)) hb); clear HO222; clear BK215; clear BK216; clear HB; have HO222 := n0_; have BK215 := n1_; have BK216 := n2_; have HB := n3_; clear n0_ n1_ n2_ n3_; (try clear hb); (try clear hb2); (try clear hk); (try clear hi); have hcz33_0 : w32.cell? ⟨gb216, 0, none⟩ = some (.string a1_0) := (blk_cell BK216.out 0).trans rfl; have hcz33_1 : w32.cell? ⟨gb216, 1, none⟩ = some (.int .i64 a1_1) := (blk_cell BK216.out 1).trans rfl; have hcz33_2 : w32.cell? ⟨gb216, 2, none⟩ = some (.int .i64 a1_2) := (blk_cell BK216.out 2).trans rfl; have hcz33_3 : w32.cell? ⟨gb216, 3, none⟩ = some (.int .i64 a1_3) := (blk_cell BK216.out 3).trans rfl; have hfz33_0 := blk_frozen BK216.out 0; have hfz33_1 := blk_frozen BK216.out 1; have hfz33_2 := blk_frozen BK216.out 2; have hfz33_3 := blk_frozen BK216.out 3) | ((with_reducible refine gate_callee (f := 14) rfl ?_); refine goesL_ (some 49) rfl rfl Tryd.func14 (by kernel_rfl) rfl #[.agg #[.string a1_0, .int .i64 a1_1, .int .i64 a1_2, .int .i64 a1_3], .slice Ao31 t220.length co31] rfl (by (try simp only [List.map_toArray, List.map_cons, List.map_nil]); first | done | rfl | (simp only [List.length_drop, List.length_take]; rfl)) ?_; (with_reducible refine (grade_Meets.calls k a1_0 a1_1 a1_2 a1_3 _ _ t220 false t227 _ ?side1 ?side2 A22.out).mono ?_); (case side1 => repeat (first | exact (Kd.R_reads' HO222.out).2.2 | (with_reducible refine Kd.C_alloc ?_ _) | (with_reducible refine Kd.C_drewN ?_ _) | (with_reducible refine Kd.C_drew ?_))); (case side2 => exact (Kd.R_reads' HO222.out).2.1); rintro e w34 ⟨rfl, hb⟩; refine ⟨_, rfl, ?_⟩; have n0_ := Aside0.mk (Kd.R_below (by (with_reducible repeat (first | apply Kd.R_alloc | apply Kd.R_drewN | apply Kd.R_drew)); exact HO222.out) hb); have n1_ := Aside0.mk (blk_below (g := gb215) (o := .cells #[.string a0_0, .int .i64 a0_1, .int .i64 a0_2, .int .i64 a0_3] 32 (0, 0)) (by (with_reducible repeat (first | refine blk_drewN ?_ _ | refine blk_drew ?_ | refine blk_alloc ?_ _)); exact BK215.out) hb); have n2_ := Aside0.mk (blk_below (g := gb216) (o := .cells #[.string a1_0, .int .i64 a1_1, .int .i64 a1_2, .int .i64 a1_3] 32 (0, 0)) (by (with_reducible repeat (first | refine blk_drewN ?_ _ | refine blk_drew ?_ | refine blk_alloc ?_ _)); exact BK216.out) hb); have n3_ := Aside0.mk (below_step (by repeat (first | (with_reducible first | exact HB.out | apply below_alloc | apply pw_below_drewN | apply below_drew1 | refine below_set ?_ GE215.out | refine below_set ?_ GE216.out) | exact HB.out)) hb); clear HO222; clear BK215; clear BK216; clear HB; have HO222 := n0_; have BK215 := n1_; have BK216 := n2_; have HB := n3_; clear n0_ n1_ n2_ n3_; (try clear hb); (try clear hb2); (try clear hk); (try clear hi)))
           go_meet
           case rel => exact ⟨_, H', ⟨by first | omega | exact Nat.le_refl _⟩, ⟨by (with_reducible repeat (first | refine blk_drewN ?_ _ | refine blk_drew ?_ | refine blk_alloc ?_ _)); exact BK215.out⟩, ⟨by (with_reducible repeat (first | refine blk_drewN ?_ _ | refine blk_drew ?_ | refine blk_alloc ?_ _)); exact BK216.out⟩, ⟨by repeat (first | (with_reducible first | exact HB.out | apply below_alloc | apply pw_below_drewN | apply below_drew1 | refine below_set ?_ GE215.out | refine below_set ?_ GE216.out) | exact HB.out)⟩⟩
         ·replace c27 := Bool.eq_false_iff.mpr c27
          subst c27
          have H1 : (some false) = some r := by rw [if_neg (show ¬ (false = true) by decide)] at H; exact H
          clear H
          have H := H1
          clear H1
          obtain rfl := Option.some.inj H
          exact absurd hr (by decide)
        ·rw [if_neg c26] at H
         have c26b0 : (t227 == 0) = false := beq_eq_false_iff_ne.mpr c26
         have c26b1 : (t227 != 0) = true := bne_iff_ne.mpr c26
         obtain rfl := Option.some.inj H
         exact absurd hr (by decide)
       ·rw [if_neg c25] at H
        have c25b0 : (t225 == 0) = false := beq_eq_false_iff_ne.mpr c25
        have c25b1 : (t225 != 0) = true := bne_iff_ne.mpr c25
        obtain rfl := Option.some.inj H
        exact absurd hr (by decide)
      ·rw [if_neg c24] at H
       have c24b0 : ((t220.length : Int) == a2) = false := beq_eq_false_iff_ne.mpr c24
       have c24b1 : ((t220.length : Int) != a2) = true := bne_iff_ne.mpr c24
       obtain rfl := Option.some.inj H
       exact absurd hr (by decide)
    ·rw [if_neg c20] at H
     have c20b0 : (t223 == 0) = false := beq_eq_false_iff_ne.mpr c20
     have c20b1 : (t223 != 0) = true := bne_iff_ne.mpr c20
     (first | rw [c20b0] | (simp only [i64_w, i32_w]; rw [c20b0]) | skip)
     have H' := Aside0.mk H
     clear H
     go_wp2
     go_meet
     case rel => exact ⟨_, H', ⟨by first | omega | exact Nat.le_refl _⟩, ⟨by (with_reducible repeat (first | refine blk_drewN ?_ _ | refine blk_drew ?_ | refine blk_alloc ?_ _)); exact BK215.out⟩, ⟨by (with_reducible repeat (first | refine blk_drewN ?_ _ | refine blk_drew ?_ | refine blk_alloc ?_ _)); exact BK216.out⟩, ⟨by repeat (first | (with_reducible first | exact HB.out | apply below_alloc | apply pw_below_drewN | apply below_drew1 | refine below_set ?_ GE215.out | refine below_set ?_ GE216.out) | exact HB.out)⟩⟩
   case rest =>
    clear HC9
    try clear c1
    try clear c2
    try clear p2
    try clear c5
    try clear c6
    try clear c7
    try clear c7b0
    try clear c7b1
    try clear c9
    try clear c13
    try clear c14
    try clear c20
    try clear c20b0
    try clear c20b1
    try clear c22
    try clear c23
    try clear c24
    try clear c24b0
    try clear c24b1
    try clear c25
    try clear c25b0
    try clear c25b1
    try clear c26
    try clear c26b0
    try clear c26b1
    try clear c27
    try clear c28
    try clear c29
    try clear hcz14_0
    try clear hcz14_1
    try clear hcz14_2
    try clear hcz14_3
    try clear hcz15_0
    try clear hcz15_1
    try clear hcz15_2
    try clear hcz15_3
    try clear hcz17_0
    try clear hcz17_1
    try clear hcz17_2
    try clear hcz17_3
    try clear hcz18_0
    try clear hcz18_1
    try clear hcz18_2
    try clear hcz18_3
    try clear hcz30_0
    try clear hcz30_1
    try clear hcz30_2
    try clear hcz30_3
    try clear hcz33_0
    try clear hcz33_1
    try clear hcz33_2
    try clear hcz33_3
    try clear hfz14_0
    try clear hfz14_1
    try clear hfz14_2
    try clear hfz14_3
    try clear hfz15_0
    try clear hfz15_1
    try clear hfz15_2
    try clear hfz15_3
    try clear hfz17_0
    try clear hfz17_1
    try clear hfz17_2
    try clear hfz17_3
    try clear hfz18_0
    try clear hfz18_1
    try clear hfz18_2
    try clear hfz18_3
    try clear hfz30_0
    try clear hfz30_1
    try clear hfz30_2
    try clear hfz30_3
    try clear hfz33_0
    try clear hfz33_1
    try clear hfz33_2
    try clear hfz33_3
    obtain ⟨kq, HA, HJ8, BK215, BK216, HB⟩ := hcut
    cases kq with
    | zero => exact absurd HA.out (by simp [gangsawlaw34_GradeWitness.j0])
    | succ kj8 =>
     have H := HA.out
     clear HA
     simp only [gangsawlaw34_GradeWitness.j0] at H
     replace H := Option.bind_eq_some_iff.mp H
     obtain ⟨⟨t228, t231⟩, A350, H⟩ := H
     replace H : (if t218 = true then (if t231 = 9 then (some ((t228.length : Int) == 0)) else (some false)) else ((grade_Meets.f kj8 a0_0 a0_1 a0_2 a0_3 t228).bind fun bt232 => ((grade_Meets.f kj8 a1_0 a1_1 a1_2 a1_3 t228).bind fun bt234 => (if t231 = 0 then (if (t228.length : Int) = a0_1 then (if bt232.2 = 0 then (if bt234.2 = 0 then (if bt232.1 = true then (some (!bt234.1)) else (some false)) else (some false)) else (some false)) else (some false)) else (some false))))) = some r := H
     have A35 := Aside0.mk A350
     clear A350
     by_cases c36 : t218 = true
     ·subst c36
      have H1 : (if t231 = 9 then (some ((t228.length : Int) == 0)) else (some false)) = some r := by rw [if_pos rfl] at H; exact H
      clear H
      have H := H1
      clear H1
      by_cases c37 : t231 = 9
      ·rw [if_pos c37] at H
       have c37b0 : (t231 == 9) = true := beq_iff_eq.mpr c37
       have c37b1 : (t231 != 9) = false := bne_eq_false_iff_eq.mpr c37
       clear c37
       obtain rfl := Option.some.inj H
       simp only [Option.some.injEq, Prod.mk.injEq] at H
       obtain ⟨rfl⟩ := H
       have hnb38 := NB215_216.out
       have hnc38 := NB216_215.out
       have hcz39_0 : wc.cell? ⟨gb215, 0, none⟩ = some (.string a0_0) := (blk_cell BK215.out 0).trans rfl
       have hcz39_1 : wc.cell? ⟨gb215, 1, none⟩ = some (.int .i64 a0_1) := (blk_cell BK215.out 1).trans rfl
       have hcz39_2 : wc.cell? ⟨gb215, 2, none⟩ = some (.int .i64 a0_2) := (blk_cell BK215.out 2).trans rfl
       have hcz39_3 : wc.cell? ⟨gb215, 3, none⟩ = some (.int .i64 a0_3) := (blk_cell BK215.out 3).trans rfl
       have hfz39_0 := blk_frozen BK215.out 0
       have hfz39_1 := blk_frozen BK215.out 1
       have hfz39_2 := blk_frozen BK215.out 2
       have hfz39_3 := blk_frozen BK215.out 3
       have hcz40_0 : wc.cell? ⟨gb216, 0, none⟩ = some (.string a1_0) := (blk_cell BK216.out 0).trans rfl
       have hcz40_1 : wc.cell? ⟨gb216, 1, none⟩ = some (.int .i64 a1_1) := (blk_cell BK216.out 1).trans rfl
       have hcz40_2 : wc.cell? ⟨gb216, 2, none⟩ = some (.int .i64 a1_2) := (blk_cell BK216.out 2).trans rfl
       have hcz40_3 : wc.cell? ⟨gb216, 3, none⟩ = some (.int .i64 a1_3) := (blk_cell BK216.out 3).trans rfl
       have hfz40_0 := blk_frozen BK216.out 0
       have hfz40_1 := blk_frozen BK216.out 1
       have hfz40_2 := blk_frozen BK216.out 2
       have hfz40_3 := blk_frozen BK216.out 3
       go_wp2_with (first | ((with_reducible refine gate_callee (f := 22) rfl ?_); refine goesL_ (some 79) rfl rfl Tryd.func22 (by kernel_rfl) rfl #[.agg #[.string a0_0, .int .i64 a0_1, .int .i64 a0_2, .int .i64 a0_3], .agg #[.string a1_0, .int .i64 a1_1, .int .i64 a1_2, .int .i64 a1_3], .int .i64 a0_1] rfl (by (try simp only [List.map_toArray, List.map_cons, List.map_nil]); first | done | rfl | (simp only [List.length_drop, List.length_take]; rfl)) ?_; (with_reducible refine (grade_Witness.calls kj8 a0_0 a0_1 a0_2 a0_3 a1_0 a1_1 a1_2 a1_3 a0_1 t228 t231 _ HLD.out (by repeat (first | (with_reducible first | exact HB.out | apply below_alloc | apply pw_below_drewN | apply below_drew1 | refine below_set ?_ GE215.out | refine below_set ?_ GE216.out) | exact HB.out)) A35.out).mono ?_); rintro e w41 ⟨v229, rfl, ho0, hb⟩; refine ⟨_, rfl, ?_⟩; have n0_ := Aside0.mk (Kd.R_lower ho0 (below_size (by repeat (first | (with_reducible first | exact HB.out | apply below_alloc | apply pw_below_drewN | apply below_drew1 | refine below_set ?_ GE215.out | refine below_set ?_ GE216.out) | exact HB.out)))); have n1_ := Aside0.mk (blk_below (g := gb215) (o := .cells #[.string a0_0, .int .i64 a0_1, .int .i64 a0_2, .int .i64 a0_3] 32 (0, 0)) (by (with_reducible repeat (first | refine blk_drewN ?_ _ | refine blk_drew ?_ | refine blk_alloc ?_ _)); exact BK215.out) hb); have n2_ := Aside0.mk (blk_below (g := gb216) (o := .cells #[.string a1_0, .int .i64 a1_1, .int .i64 a1_2, .int .i64 a1_3] 32 (0, 0)) (by (with_reducible repeat (first | refine blk_drewN ?_ _ | refine blk_drew ?_ | refine blk_alloc ?_ _)); exact BK216.out) hb); have n3_ := Aside0.mk (below_step (by repeat (first | (with_reducible first | exact HB.out | apply below_alloc | apply pw_below_drewN | apply below_drew1 | refine below_set ?_ GE215.out | refine below_set ?_ GE216.out) | exact HB.out)) hb); clear BK215; clear BK216; clear HB; have HO230 := n0_; have BK215 := n1_; have BK216 := n2_; have HB := n3_; clear n0_ n1_ n2_ n3_; (try clear hb); (try clear hb2); (try clear hk); (try clear hi); (try clear ho0); obtain ⟨Ao42, co42, eo42⟩ := Kd.R_slice HO230.out; subst eo42))
       go_ret
       exact ⟨by first | rfl | (simp [errW_none, errW_some] <;> rfl) | (simp [*, errW_none, errW_some] <;> rfl), by repeat (first | (with_reducible first | exact HB.out | apply below_alloc | apply pw_below_drewN | apply below_drew1 | refine below_set ?_ GE215.out | refine below_set ?_ GE216.out) | exact HB.out)⟩
      ·rw [if_neg c37] at H
       have c37b0 : (t231 == 9) = false := beq_eq_false_iff_ne.mpr c37
       have c37b1 : (t231 != 9) = true := bne_iff_ne.mpr c37
       obtain rfl := Option.some.inj H
       exact absurd hr (by decide)
     ·replace c36 := Bool.eq_false_iff.mpr c36
      subst c36
      have H1 : ((grade_Meets.f kj8 a0_0 a0_1 a0_2 a0_3 t228).bind fun bt232 => ((grade_Meets.f kj8 a1_0 a1_1 a1_2 a1_3 t228).bind fun bt234 => (if t231 = 0 then (if (t228.length : Int) = a0_1 then (if bt232.2 = 0 then (if bt234.2 = 0 then (if bt232.1 = true then (some (!bt234.1)) else (some false)) else (some false)) else (some false)) else (some false)) else (some false)))) = some r := by rw [if_neg (show ¬ (false = true) by decide)] at H; exact H
      clear H
      have H := H1
      clear H1
      replace H := Option.bind_eq_some_iff.mp H
      obtain ⟨⟨t232, t233⟩, A430, H⟩ := H
      replace H : ((grade_Meets.f kj8 a1_0 a1_1 a1_2 a1_3 t228).bind fun bt234 => (if t231 = 0 then (if (t228.length : Int) = a0_1 then (if t233 = 0 then (if bt234.2 = 0 then (if t232 = true then (some (!bt234.1)) else (some false)) else (some false)) else (some false)) else (some false)) else (some false))) = some r := H
      have A43 := Aside0.mk A430
      clear A430
      replace H := Option.bind_eq_some_iff.mp H
      obtain ⟨⟨t234, t235⟩, A440, H⟩ := H
      replace H : (if t231 = 0 then (if (t228.length : Int) = a0_1 then (if t233 = 0 then (if t235 = 0 then (if t232 = true then (some (!t234)) else (some false)) else (some false)) else (some false)) else (some false)) else (some false)) = some r := H
      have A44 := Aside0.mk A440
      clear A440
      by_cases c45 : t231 = 0
      ·rw [if_pos c45] at H
       have c45b0 : (t231 == 0) = true := beq_iff_eq.mpr c45
       have c45b1 : (t231 != 0) = false := bne_eq_false_iff_eq.mpr c45
       clear c45
       by_cases c46 : (t228.length : Int) = a0_1
       ·rw [if_pos c46] at H
        have c46b0 : ((t228.length : Int) == a0_1) = true := beq_iff_eq.mpr c46
        have c46b1 : ((t228.length : Int) != a0_1) = false := bne_eq_false_iff_eq.mpr c46
        clear c46
        by_cases c47 : t233 = 0
        ·rw [if_pos c47] at H
         have c47b0 : (t233 == 0) = true := beq_iff_eq.mpr c47
         have c47b1 : (t233 != 0) = false := bne_eq_false_iff_eq.mpr c47
         clear c47
         by_cases c48 : t235 = 0
         ·rw [if_pos c48] at H
          have c48b0 : (t235 == 0) = true := beq_iff_eq.mpr c48
          have c48b1 : (t235 != 0) = false := bne_eq_false_iff_eq.mpr c48
          clear c48
          by_cases c49 : t232 = true
          ·subst c49
           have H1 : (some (!t234)) = some r := by rw [if_pos rfl] at H; exact H
           clear H
           have H := H1
           clear H1
           obtain rfl := Option.some.inj H
           simp only [Option.some.injEq, Prod.mk.injEq] at H
           obtain ⟨rfl⟩ := H
           have hnb50 := NB215_216.out
           have hnc50 := NB216_215.out
           have hcz51_0 : wc.cell? ⟨gb215, 0, none⟩ = some (.string a0_0) := (blk_cell BK215.out 0).trans rfl
           have hcz51_1 : wc.cell? ⟨gb215, 1, none⟩ = some (.int .i64 a0_1) := (blk_cell BK215.out 1).trans rfl
           have hcz51_2 : wc.cell? ⟨gb215, 2, none⟩ = some (.int .i64 a0_2) := (blk_cell BK215.out 2).trans rfl
           have hcz51_3 : wc.cell? ⟨gb215, 3, none⟩ = some (.int .i64 a0_3) := (blk_cell BK215.out 3).trans rfl
           have hfz51_0 := blk_frozen BK215.out 0
           have hfz51_1 := blk_frozen BK215.out 1
           have hfz51_2 := blk_frozen BK215.out 2
           have hfz51_3 := blk_frozen BK215.out 3
           have hcz52_0 : wc.cell? ⟨gb216, 0, none⟩ = some (.string a1_0) := (blk_cell BK216.out 0).trans rfl
           have hcz52_1 : wc.cell? ⟨gb216, 1, none⟩ = some (.int .i64 a1_1) := (blk_cell BK216.out 1).trans rfl
           have hcz52_2 : wc.cell? ⟨gb216, 2, none⟩ = some (.int .i64 a1_2) := (blk_cell BK216.out 2).trans rfl
           have hcz52_3 : wc.cell? ⟨gb216, 3, none⟩ = some (.int .i64 a1_3) := (blk_cell BK216.out 3).trans rfl
           have hfz52_0 := blk_frozen BK216.out 0
           have hfz52_1 := blk_frozen BK216.out 1
           have hfz52_2 := blk_frozen BK216.out 2
           have hfz52_3 := blk_frozen BK216.out 3
           go_wp2_with (first | ((with_reducible refine gate_callee (f := 22) rfl ?_); refine goesL_ (some 79) rfl rfl Tryd.func22 (by kernel_rfl) rfl #[.agg #[.string a0_0, .int .i64 a0_1, .int .i64 a0_2, .int .i64 a0_3], .agg #[.string a1_0, .int .i64 a1_1, .int .i64 a1_2, .int .i64 a1_3], .int .i64 a0_1] rfl (by (try simp only [List.map_toArray, List.map_cons, List.map_nil]); first | done | rfl | (simp only [List.length_drop, List.length_take]; rfl)) ?_; (with_reducible refine (grade_Witness.calls kj8 a0_0 a0_1 a0_2 a0_3 a1_0 a1_1 a1_2 a1_3 a0_1 t228 t231 _ HLD.out (by repeat (first | (with_reducible first | exact HB.out | apply below_alloc | apply pw_below_drewN | apply below_drew1 | refine below_set ?_ GE215.out | refine below_set ?_ GE216.out) | exact HB.out)) A35.out).mono ?_); rintro e w53 ⟨v229, rfl, ho0, hb⟩; refine ⟨_, rfl, ?_⟩; have n0_ := Aside0.mk (Kd.R_lower ho0 (below_size (by repeat (first | (with_reducible first | exact HB.out | apply below_alloc | apply pw_below_drewN | apply below_drew1 | refine below_set ?_ GE215.out | refine below_set ?_ GE216.out) | exact HB.out)))); have n1_ := Aside0.mk (blk_below (g := gb215) (o := .cells #[.string a0_0, .int .i64 a0_1, .int .i64 a0_2, .int .i64 a0_3] 32 (0, 0)) (by (with_reducible repeat (first | refine blk_drewN ?_ _ | refine blk_drew ?_ | refine blk_alloc ?_ _)); exact BK215.out) hb); have n2_ := Aside0.mk (blk_below (g := gb216) (o := .cells #[.string a1_0, .int .i64 a1_1, .int .i64 a1_2, .int .i64 a1_3] 32 (0, 0)) (by (with_reducible repeat (first | refine blk_drewN ?_ _ | refine blk_drew ?_ | refine blk_alloc ?_ _)); exact BK216.out) hb); have n3_ := Aside0.mk (below_step (by repeat (first | (with_reducible first | exact HB.out | apply below_alloc | apply pw_below_drewN | apply below_drew1 | refine below_set ?_ GE215.out | refine below_set ?_ GE216.out) | exact HB.out)) hb); clear BK215; clear BK216; clear HB; have HO230 := n0_; have BK215 := n1_; have BK216 := n2_; have HB := n3_; clear n0_ n1_ n2_ n3_; (try clear hb); (try clear hb2); (try clear hk); (try clear hi); (try clear ho0); have hcz54_0 : w53.cell? ⟨gb215, 0, none⟩ = some (.string a0_0) := (blk_cell BK215.out 0).trans rfl; have hcz54_1 : w53.cell? ⟨gb215, 1, none⟩ = some (.int .i64 a0_1) := (blk_cell BK215.out 1).trans rfl; have hcz54_2 : w53.cell? ⟨gb215, 2, none⟩ = some (.int .i64 a0_2) := (blk_cell BK215.out 2).trans rfl; have hcz54_3 : w53.cell? ⟨gb215, 3, none⟩ = some (.int .i64 a0_3) := (blk_cell BK215.out 3).trans rfl; have hfz54_0 := blk_frozen BK215.out 0; have hfz54_1 := blk_frozen BK215.out 1; have hfz54_2 := blk_frozen BK215.out 2; have hfz54_3 := blk_frozen BK215.out 3; obtain ⟨Ao55, co55, eo55⟩ := Kd.R_slice HO230.out; subst eo55) | ((with_reducible refine gate_callee (f := 14) rfl ?_); refine goesL_ (some 93) rfl rfl Tryd.func14 (by kernel_rfl) rfl #[.agg #[.string a0_0, .int .i64 a0_1, .int .i64 a0_2, .int .i64 a0_3], .slice Ao55 t228.length co55] rfl (by (try simp only [List.map_toArray, List.map_cons, List.map_nil]); first | done | rfl | (simp only [List.length_drop, List.length_take]; rfl)) ?_; (with_reducible refine (grade_Meets.calls kj8 a0_0 a0_1 a0_2 a0_3 _ _ t228 true t233 _ ?side1 ?side2 A43.out).mono ?_); (case side1 => repeat (first | exact (Kd.R_reads' HO230.out).2.2 | (with_reducible refine Kd.C_alloc ?_ _) | (with_reducible refine Kd.C_drewN ?_ _) | (with_reducible refine Kd.C_drew ?_))); (case side2 => exact (Kd.R_reads' HO230.out).2.1); rintro e w56 ⟨rfl, hb⟩; refine ⟨_, rfl, ?_⟩; have n0_ := Aside0.mk (Kd.R_below (by (with_reducible repeat (first | apply Kd.R_alloc | apply Kd.R_drewN | apply Kd.R_drew)); exact HO230.out) hb); have n1_ := Aside0.mk (blk_below (g := gb215) (o := .cells #[.string a0_0, .int .i64 a0_1, .int .i64 a0_2, .int .i64 a0_3] 32 (0, 0)) (by (with_reducible repeat (first | refine blk_drewN ?_ _ | refine blk_drew ?_ | refine blk_alloc ?_ _)); exact BK215.out) hb); have n2_ := Aside0.mk (blk_below (g := gb216) (o := .cells #[.string a1_0, .int .i64 a1_1, .int .i64 a1_2, .int .i64 a1_3] 32 (0, 0)) (by (with_reducible repeat (first | refine blk_drewN ?_ _ | refine blk_drew ?_ | refine blk_alloc ?_ _)); exact BK216.out) hb); have n3_ := Aside0.mk (below_step (by repeat (first | (with_reducible first | exact HB.out | apply below_alloc | apply pw_below_drewN | apply below_drew1 | refine below_set ?_ GE215.out | refine below_set ?_ GE216.out) | exact HB.out)) hb); clear HO230; clear BK215; clear BK216; clear HB; have HO230 := n0_; have BK215 := n1_; have BK216 := n2_; have HB := n3_; clear n0_ n1_ n2_ n3_; (try clear hb); (try clear hb2); (try clear hk); (try clear hi); have hcz57_0 : w56.cell? ⟨gb216, 0, none⟩ = some (.string a1_0) := (blk_cell BK216.out 0).trans rfl; have hcz57_1 : w56.cell? ⟨gb216, 1, none⟩ = some (.int .i64 a1_1) := (blk_cell BK216.out 1).trans rfl; have hcz57_2 : w56.cell? ⟨gb216, 2, none⟩ = some (.int .i64 a1_2) := (blk_cell BK216.out 2).trans rfl; have hcz57_3 : w56.cell? ⟨gb216, 3, none⟩ = some (.int .i64 a1_3) := (blk_cell BK216.out 3).trans rfl; have hfz57_0 := blk_frozen BK216.out 0; have hfz57_1 := blk_frozen BK216.out 1; have hfz57_2 := blk_frozen BK216.out 2; have hfz57_3 := blk_frozen BK216.out 3) | ((with_reducible refine gate_callee (f := 14) rfl ?_); refine goesL_ (some 99) rfl rfl Tryd.func14 (by kernel_rfl) rfl #[.agg #[.string a1_0, .int .i64 a1_1, .int .i64 a1_2, .int .i64 a1_3], .slice Ao55 t228.length co55] rfl (by (try simp only [List.map_toArray, List.map_cons, List.map_nil]); first | done | rfl | (simp only [List.length_drop, List.length_take]; rfl)) ?_; (with_reducible refine (grade_Meets.calls kj8 a1_0 a1_1 a1_2 a1_3 _ _ t228 t234 t235 _ ?side1 ?side2 A44.out).mono ?_); (case side1 => repeat (first | exact (Kd.R_reads' HO230.out).2.2 | (with_reducible refine Kd.C_alloc ?_ _) | (with_reducible refine Kd.C_drewN ?_ _) | (with_reducible refine Kd.C_drew ?_))); (case side2 => exact (Kd.R_reads' HO230.out).2.1); rintro e w58 ⟨rfl, hb⟩; refine ⟨_, rfl, ?_⟩; have n0_ := Aside0.mk (Kd.R_below (by (with_reducible repeat (first | apply Kd.R_alloc | apply Kd.R_drewN | apply Kd.R_drew)); exact HO230.out) hb); have n1_ := Aside0.mk (blk_below (g := gb215) (o := .cells #[.string a0_0, .int .i64 a0_1, .int .i64 a0_2, .int .i64 a0_3] 32 (0, 0)) (by (with_reducible repeat (first | refine blk_drewN ?_ _ | refine blk_drew ?_ | refine blk_alloc ?_ _)); exact BK215.out) hb); have n2_ := Aside0.mk (blk_below (g := gb216) (o := .cells #[.string a1_0, .int .i64 a1_1, .int .i64 a1_2, .int .i64 a1_3] 32 (0, 0)) (by (with_reducible repeat (first | refine blk_drewN ?_ _ | refine blk_drew ?_ | refine blk_alloc ?_ _)); exact BK216.out) hb); have n3_ := Aside0.mk (below_step (by repeat (first | (with_reducible first | exact HB.out | apply below_alloc | apply pw_below_drewN | apply below_drew1 | refine below_set ?_ GE215.out | refine below_set ?_ GE216.out) | exact HB.out)) hb); clear HO230; clear BK215; clear BK216; clear HB; have HO230 := n0_; have BK215 := n1_; have BK216 := n2_; have HB := n3_; clear n0_ n1_ n2_ n3_; (try clear hb); (try clear hb2); (try clear hk); (try clear hi); have hcz59_0 : w58.cell? ⟨gb215, 0, none⟩ = some (.string a0_0) := (blk_cell BK215.out 0).trans rfl; have hcz59_1 : w58.cell? ⟨gb215, 1, none⟩ = some (.int .i64 a0_1) := (blk_cell BK215.out 1).trans rfl; have hcz59_2 : w58.cell? ⟨gb215, 2, none⟩ = some (.int .i64 a0_2) := (blk_cell BK215.out 2).trans rfl; have hcz59_3 : w58.cell? ⟨gb215, 3, none⟩ = some (.int .i64 a0_3) := (blk_cell BK215.out 3).trans rfl; have hfz59_0 := blk_frozen BK215.out 0; have hfz59_1 := blk_frozen BK215.out 1; have hfz59_2 := blk_frozen BK215.out 2; have hfz59_3 := blk_frozen BK215.out 3))
           go_ret
           exact ⟨by first | rfl | (simp [errW_none, errW_some] <;> rfl) | (simp [*, errW_none, errW_some] <;> rfl), by repeat (first | (with_reducible first | exact HB.out | apply below_alloc | apply pw_below_drewN | apply below_drew1 | refine below_set ?_ GE215.out | refine below_set ?_ GE216.out) | exact HB.out)⟩
          ·replace c49 := Bool.eq_false_iff.mpr c49
           subst c49
           have H1 : (some false) = some r := by rw [if_neg (show ¬ (false = true) by decide)] at H; exact H
           clear H
           have H := H1
           clear H1
           obtain rfl := Option.some.inj H
           exact absurd hr (by decide)
         ·rw [if_neg c48] at H
          have c48b0 : (t235 == 0) = false := beq_eq_false_iff_ne.mpr c48
          have c48b1 : (t235 != 0) = true := bne_iff_ne.mpr c48
          obtain rfl := Option.some.inj H
          exact absurd hr (by decide)
        ·rw [if_neg c47] at H
         have c47b0 : (t233 == 0) = false := beq_eq_false_iff_ne.mpr c47
         have c47b1 : (t233 != 0) = true := bne_iff_ne.mpr c47
         obtain rfl := Option.some.inj H
         exact absurd hr (by decide)
       ·rw [if_neg c46] at H
        have c46b0 : ((t228.length : Int) == a0_1) = false := beq_eq_false_iff_ne.mpr c46
        have c46b1 : ((t228.length : Int) != a0_1) = true := bne_iff_ne.mpr c46
        obtain rfl := Option.some.inj H
        exact absurd hr (by decide)
      ·rw [if_neg c45] at H
       have c45b0 : (t231 == 0) = false := beq_eq_false_iff_ne.mpr c45
       have c45b1 : (t231 != 0) = true := bne_iff_ne.mpr c45
       obtain rfl := Option.some.inj H
       exact absurd hr (by decide)
  ·rw [if_neg c7] at H
   have c7b0 : (t219 == 0) = false := beq_eq_false_iff_ne.mpr c7
   have c7b1 : (t219 != 0) = true := bne_iff_ne.mpr c7
   obtain rfl := Option.some.inj H
   simp only [Option.some.injEq, Prod.mk.injEq] at H
   obtain ⟨rfl⟩ := H
   go_enter Tryd.func6, Tryd.ntmps6
   go_wp2_with (first | ((with_reducible refine gate_dst (N := 3) rfl ?_); (try (refine gate_guard (by rfl) ?_; dsimp only)); refine box_event ?hg (N := 3) ?hd (cs := #[.string a0_0, .int .i64 a0_1, .int .i64 a0_2, .int .i64 a0_3]) (t := 32) ?hr ?_; (case hd => rfl); (case hg => rfl); (case hr => first | (go_simp; done) | (go_simp; rfl)); intro gb215 hg w60 hbox hb; have n0_ := Aside0.mk (below_step (by repeat (first | (with_reducible first | exact HB.out | apply below_alloc | apply pw_below_drewN | apply below_drew1) | exact HB.out)) hb); have n1_ := Aside0.mk (hbox); have n2_ := Aside0.mk ((by rw [hg]; exact (below_size (by repeat (first | (with_reducible first | exact HB.out | apply below_alloc | apply pw_below_drewN | apply below_drew1) | exact HB.out))) : w.heap.size ≤ gb215)); have n3_ := Aside0.mk ((by rw [hg]; exact (below_size (by repeat (first | (with_reducible first | exact HB.out | apply below_alloc | apply pw_below_drewN | apply below_drew1) | exact HB.out))) : w.heap.size ≤ gb215)); clear HB; have HB := n0_; have BK215 := n1_; have GW215 := n2_; have GE215 := n3_; clear n0_ n1_ n2_ n3_; clear hb hbox hg) | ((with_reducible refine gate_dst (N := 4) rfl ?_); (try (refine gate_guard (by rfl) ?_; dsimp only)); refine box_event ?hg (N := 4) ?hd (cs := #[.string a1_0, .int .i64 a1_1, .int .i64 a1_2, .int .i64 a1_3]) (t := 32) ?hr ?_; (case hd => rfl); (case hg => rfl); (case hr => first | (go_simp; done) | (go_simp; rfl)); intro gb216 hg w61 hbox hb; have n0_ := Aside0.mk (blk_below (g := gb215) (o := .cells #[.string a0_0, .int .i64 a0_1, .int .i64 a0_2, .int .i64 a0_3] 32 (0, 0)) (by (with_reducible repeat (first | refine blk_drewN ?_ _ | refine blk_drew ?_ | refine blk_alloc ?_ _)); exact BK215.out) hb); have n1_ := Aside0.mk (below_step (by repeat (first | (with_reducible first | exact HB.out | apply below_alloc | apply pw_below_drewN | apply below_drew1 | refine below_set ?_ GE215.out) | exact HB.out)) hb); have n2_ := Aside0.mk (hbox); have n3_ := Aside0.mk ((by rw [hg]; exact (below_size (by repeat (first | (with_reducible first | exact HB.out | apply below_alloc | apply pw_below_drewN | apply below_drew1 | refine below_set ?_ GE215.out) | exact HB.out))) : w.heap.size ≤ gb216)); have n4_ := Aside0.mk ((by rw [hg]; exact (below_size (by repeat (first | (with_reducible first | exact HB.out | apply below_alloc | apply pw_below_drewN | apply below_drew1 | refine below_set ?_ GE215.out) | exact HB.out))) : w.heap.size ≤ gb216)); have n5_ := Aside0.mk ((by rw [hg]; exact Nat.ne_of_lt (blk_lt (g := gb215) (o := .cells #[.string a0_0, .int .i64 a0_1, .int .i64 a0_2, .int .i64 a0_3] 32 (0, 0)) (by (with_reducible repeat (first | refine blk_drewN ?_ _ | refine blk_drew ?_ | refine blk_alloc ?_ _)); exact BK215.out)) : gb215 ≠ gb216)); have n6_ := Aside0.mk ((by rw [hg]; exact Nat.ne_of_gt (blk_lt (g := gb215) (o := .cells #[.string a0_0, .int .i64 a0_1, .int .i64 a0_2, .int .i64 a0_3] 32 (0, 0)) (by (with_reducible repeat (first | refine blk_drewN ?_ _ | refine blk_drew ?_ | refine blk_alloc ?_ _)); exact BK215.out)) : gb216 ≠ gb215)); clear BK215; clear HB; have BK215 := n0_; have HB := n1_; have BK216 := n2_; have GW216 := n3_; have GE216 := n4_; have NB215_216 := n5_; have NB216_215 := n6_; clear n0_ n1_ n2_ n3_ n4_ n5_ n6_; clear hb hbox hg) | ((with_reducible refine gate_callee (f := 9) rfl ?_); refine goesL_ (some 19) rfl rfl Tryd.func9 (by kernel_rfl) rfl #[] rfl (by (try simp only [List.map_toArray, List.map_cons, List.map_nil]); first | done | rfl | (simp only [List.length_drop, List.length_take]; rfl)) ?_; (with_reducible refine (gangsawlaw34_awake.calls  true _ HLD.out (by repeat (first | (with_reducible first | exact HB.out | apply below_alloc | apply pw_below_drewN | apply below_drew1 | refine below_set ?_ GE215.out | refine below_set ?_ GE216.out) | exact HB.out)) A4.out).mono ?_); rintro e w62 ⟨rfl, hb⟩; refine ⟨_, rfl, ?_⟩; have n0_ := Aside0.mk (blk_below (g := gb215) (o := .cells #[.string a0_0, .int .i64 a0_1, .int .i64 a0_2, .int .i64 a0_3] 32 (0, 0)) (by (with_reducible repeat (first | refine blk_drewN ?_ _ | refine blk_drew ?_ | refine blk_alloc ?_ _)); exact BK215.out) hb); have n1_ := Aside0.mk (blk_below (g := gb216) (o := .cells #[.string a1_0, .int .i64 a1_1, .int .i64 a1_2, .int .i64 a1_3] 32 (0, 0)) (by (with_reducible repeat (first | refine blk_drewN ?_ _ | refine blk_drew ?_ | refine blk_alloc ?_ _)); exact BK216.out) hb); have n2_ := Aside0.mk (below_step (by repeat (first | (with_reducible first | exact HB.out | apply below_alloc | apply pw_below_drewN | apply below_drew1 | refine below_set ?_ GE215.out | refine below_set ?_ GE216.out) | exact HB.out)) hb); clear BK215; clear BK216; clear HB; have BK215 := n0_; have BK216 := n1_; have HB := n2_; clear n0_ n1_ n2_; (try clear hb); (try clear hb2); (try clear hk); (try clear hi); have hnb63 := NB215_216.out; have hnc63 := NB216_215.out; have hcz64_0 : w62.cell? ⟨gb215, 0, none⟩ = some (.string a0_0) := (blk_cell BK215.out 0).trans rfl; have hcz64_1 : w62.cell? ⟨gb215, 1, none⟩ = some (.int .i64 a0_1) := (blk_cell BK215.out 1).trans rfl; have hcz64_2 : w62.cell? ⟨gb215, 2, none⟩ = some (.int .i64 a0_2) := (blk_cell BK215.out 2).trans rfl; have hcz64_3 : w62.cell? ⟨gb215, 3, none⟩ = some (.int .i64 a0_3) := (blk_cell BK215.out 3).trans rfl; have hfz64_0 := blk_frozen BK215.out 0; have hfz64_1 := blk_frozen BK215.out 1; have hfz64_2 := blk_frozen BK215.out 2; have hfz64_3 := blk_frozen BK215.out 3; have hcz65_0 : w62.cell? ⟨gb216, 0, none⟩ = some (.string a1_0) := (blk_cell BK216.out 0).trans rfl; have hcz65_1 : w62.cell? ⟨gb216, 1, none⟩ = some (.int .i64 a1_1) := (blk_cell BK216.out 1).trans rfl; have hcz65_2 : w62.cell? ⟨gb216, 2, none⟩ = some (.int .i64 a1_2) := (blk_cell BK216.out 2).trans rfl; have hcz65_3 : w62.cell? ⟨gb216, 3, none⟩ = some (.int .i64 a1_3) := (blk_cell BK216.out 3).trans rfl; have hfz65_0 := blk_frozen BK216.out 0; have hfz65_1 := blk_frozen BK216.out 1; have hfz65_2 := blk_frozen BK216.out 2; have hfz65_3 := blk_frozen BK216.out 3) | ((with_reducible refine gate_callee (f := 20) rfl ?_); refine goesL_ (some 24) rfl rfl Tryd.func20 (by kernel_rfl) rfl #[.agg #[.string a0_0, .int .i64 a0_1, .int .i64 a0_2, .int .i64 a0_3], .agg #[.string a1_0, .int .i64 a1_1, .int .i64 a1_2, .int .i64 a1_3]] rfl (by (try simp only [List.map_toArray, List.map_cons, List.map_nil]); first | done | rfl | (simp only [List.length_drop, List.length_take]; rfl)) ?_; (with_reducible refine (grade_Implies.calls k a0_0 a0_1 a0_2 a0_3 a1_0 a1_1 a1_2 a1_3 t218 t219 _ HLD.out (by repeat (first | (with_reducible first | exact HB.out | apply below_alloc | apply pw_below_drewN | apply below_drew1 | refine below_set ?_ GE215.out | refine below_set ?_ GE216.out) | exact HB.out)) A6.out).mono ?_); rintro e w66 ⟨rfl, hb⟩; refine ⟨_, rfl, ?_⟩; have n0_ := Aside0.mk (blk_below (g := gb215) (o := .cells #[.string a0_0, .int .i64 a0_1, .int .i64 a0_2, .int .i64 a0_3] 32 (0, 0)) (by (with_reducible repeat (first | refine blk_drewN ?_ _ | refine blk_drew ?_ | refine blk_alloc ?_ _)); exact BK215.out) hb); have n1_ := Aside0.mk (blk_below (g := gb216) (o := .cells #[.string a1_0, .int .i64 a1_1, .int .i64 a1_2, .int .i64 a1_3] 32 (0, 0)) (by (with_reducible repeat (first | refine blk_drewN ?_ _ | refine blk_drew ?_ | refine blk_alloc ?_ _)); exact BK216.out) hb); have n2_ := Aside0.mk (below_step (by repeat (first | (with_reducible first | exact HB.out | apply below_alloc | apply pw_below_drewN | apply below_drew1 | refine below_set ?_ GE215.out | refine below_set ?_ GE216.out) | exact HB.out)) hb); clear BK215; clear BK216; clear HB; have BK215 := n0_; have BK216 := n1_; have HB := n2_; clear n0_ n1_ n2_; (try clear hb); (try clear hb2); (try clear hk); (try clear hi)))
   go_ret
   exact ⟨by first | rfl | (simp [errW_none, errW_some] <;> rfl) | (simp [*, errW_none, errW_some] <;> rfl), by repeat (first | (with_reducible first | exact HB.out | apply below_alloc | apply pw_below_drewN | apply below_drew1 | refine below_set ?_ GE215.out | refine below_set ?_ GE216.out) | exact HB.out)⟩
 ·replace c5 := Bool.eq_false_iff.mpr c5
  subst c5
  have H1 : (some false) = some r := by rw [if_neg (show ¬ (false = true) by decide)] at H; exact H
  clear H
  have H := H1
  clear H1
  obtain rfl := Option.some.inj H
  exact absurd hr (by decide)

end Go.Proofs.YtankffbfocaibaaDoor.P
