/- What functions of the program return: each contract says so of one function, for every input at which its pure function yields. -/
import Derived.Test.YtlbpdhjdlnhciaaPx0
import Derived.Test.YtlbpdhjdlnhciaaPx1
import Derived.Test.YtlbpdhjdlnhciaaPx5
import Derived.Test.YtlbpdhjdlnhciaaPx9
import Derived.Test.YtlbpdhjdlnhciaaPx10
import Derived.Test.YtlbpdhjdlnhciaaAwk
import Derived.Test.YtlbpdhjdlnhciaaSym
namespace Go.Proofs.Ytlbpdhjdlnhciaa.P
open Go.RowKit Go.Proofs.YtlbpdhjdlnhciaaW.PrintWords Go.Proofs.YtlbpdhjdlnhciaaW.PrintLast Go.Proofs.YtlbpdhjdlnhciaaW.PrintMore
attribute [local go_sem] max2_int min2_int max_two min_two max_three min_three max_four min_four   -- for this text's walks alone
set_option linter.unusedVariables false
set_option linter.unusedSimpArgs false

open Go.Proofs.Ytlbpdhjdlnhciaa.Awk Go.Proofs.Ytlbpdhjdlnhciaa.Sym
def gangsawlaw29_SawChoices.j0 : Nat → List (S37) → Int → Int → Int → Int → Int → Int → Int → Int → Int → Int → Int → Option (Bool)
 | 0, _, _, _, _, _, _, _, _, _, _, _, _ => none
 | k + 1, x0, x2, x3, x9, x10, x11, x218000, x218001, x218002, x218003, x218004, x218005 => if x11 = 0 then ((gangsawref29_Choose.f k x0 x218000 x218001 x218002 x218003 x218004 x218005 x2 x3).bind fun t224 => (if t224 < 0 then (if x10 = 9 then (some (x9 == 0)) else (some false)) else (if x10 = 0 then (some (x9 == t224)) else (some false)))) else (if x10 = x11 then (some (x9 == 0)) else (some false))
def gangsawlaw29_SawChoices.f (k : Nat) (l0 : List (S37)) (a1_0 : Int) (a1_1 : Int) (a1_2 : Int) (a1_3 : Int) (a1_4 : Int) (a1_5 : Int) (a2 : Int) (a3 : Int) : Option (Bool) := (gangsawlaw29_awake.f).bind fun t218 => (if t218 = true then ((gangsawref29_Few.f k l0).bind fun t219 => (if t219 = true then ((saw_Choose.f k l0 a1_0 a1_1 a1_2 a1_3 a1_4 a1_5 a2 a3).bind fun bt220 => ((gangsawref29_Check.f k l0).bind fun t222 => (if t222 = 0 then ((gangsawref29_Cut.f a1_0 a1_1 a1_2 a1_3 a1_4 a1_5 a2 a3).bind fun t223 => (gangsawlaw29_SawChoices.j0 k l0 a2 a3 bt220.1 bt220.2 t223 a1_0 a1_1 a1_2 a1_3 a1_4 a1_5)) else (gangsawlaw29_SawChoices.j0 k l0 a2 a3 bt220.1 bt220.2 t222 a1_0 a1_1 a1_2 a1_3 a1_4 a1_5)))) else (some true))) else (some false))
theorem gangsawlaw29_SawChoices.mono_l : ∀ k, (∀ y0 y1 y2 y3 y4 y5 y6 y7 y8 y9 y10 y11, LeO (gangsawlaw29_SawChoices.j0 k y0 y1 y2 y3 y4 y5 y6 y7 y8 y9 y10 y11) (gangsawlaw29_SawChoices.j0 (k + 1) y0 y1 y2 y3 y4 y5 y6 y7 y8 y9 y10 y11))
 | 0 => fun _ _ _ _ _ _ _ _ _ _ _ _ r h => by simp [gangsawlaw29_SawChoices.j0] at h
 | k + 1 => by
  have ih0 := gangsawlaw29_SawChoices.mono_l k
  ·intro y0 y1 y2 y3 y4 y5 y6 y7 y8 y9 y10 y11
   unfold gangsawlaw29_SawChoices.j0
   repeat' first
   | (with_reducible exact ih0 _ _ _ _ _ _ _ _ _ _ _ _)
   | (with_reducible exact gangsawref29_Check.mono _ _)
   | (with_reducible exact gangsawref29_Choose.mono _ _ _ _ _ _ _ _ _ _)
   | (with_reducible exact gangsawref29_Few.mono _ _)
   | (with_reducible exact saw_Choose.mono _ _ _ _ _ _ _ _ _ _)
   | (with_reducible refine contains3.mono2 (fun x_ => ?_))
   | (with_reducible refine contains37.mono2 (fun x_ => ?_))
   | (with_reducible refine index3.mono2 (fun x_ => ?_))
   | (with_reducible refine index37.mono2 (fun x_ => ?_))
   | (with_reducible exact LeO.refl _)
   | (with_reducible exact LeO.none _)
   | (with_reducible refine LeO.ite ?_ ?_)
   | (with_reducible refine LeO.bind ?_ (fun _ => ?_))
   | exact ih0 _ _ _ _ _ _ _ _ _ _ _ _
   | exact gangsawref29_Check.mono _ _
   | exact gangsawref29_Choose.mono _ _ _ _ _ _ _ _ _ _
   | exact gangsawref29_Few.mono _ _
   | exact saw_Choose.mono _ _ _ _ _ _ _ _ _ _
   | exact LeO.none _
   | refine LeO.ite ?_ ?_
   | refine LeO.bind ?_ (fun _ => ?_)
theorem gangsawlaw29_SawChoices.mono : ∀ a0 a1 a2 a3 a4 a5 a6 a7 a8 k, LeO (gangsawlaw29_SawChoices.f k a0 a1 a2 a3 a4 a5 a6 a7 a8) (gangsawlaw29_SawChoices.f (k + 1) a0 a1 a2 a3 a4 a5 a6 a7 a8) := by
 intro a0 a1 a2 a3 a4 a5 a6 a7 a8 k
 have ih0 := gangsawlaw29_SawChoices.mono_l k
 unfold gangsawlaw29_SawChoices.f
 repeat' first
   | (with_reducible exact ih0 _ _ _ _ _ _ _ _ _ _ _ _)
   | (with_reducible exact gangsawref29_Check.mono _ _)
   | (with_reducible exact gangsawref29_Choose.mono _ _ _ _ _ _ _ _ _ _)
   | (with_reducible exact gangsawref29_Few.mono _ _)
   | (with_reducible exact saw_Choose.mono _ _ _ _ _ _ _ _ _ _)
   | (with_reducible refine contains3.mono2 (fun x_ => ?_))
   | (with_reducible refine contains37.mono2 (fun x_ => ?_))
   | (with_reducible refine index3.mono2 (fun x_ => ?_))
   | (with_reducible refine index37.mono2 (fun x_ => ?_))
   | (with_reducible exact LeO.refl _)
   | (with_reducible exact LeO.none _)
   | (with_reducible refine LeO.ite ?_ ?_)
   | (with_reducible refine LeO.bind ?_ (fun _ => ?_))
   | exact ih0 _ _ _ _ _ _ _ _ _ _ _ _
   | exact gangsawref29_Check.mono _ _
   | exact gangsawref29_Choose.mono _ _ _ _ _ _ _ _ _ _
   | exact gangsawref29_Few.mono _ _
   | exact saw_Choose.mono _ _ _ _ _ _ _ _ _ _
   | exact LeO.none _
   | refine LeO.ite ?_ ?_
   | refine LeO.bind ?_ (fun _ => ?_)
set_option maxHeartbeats 8000000 in
set_option maxRecDepth 100000 in
theorem gangsawlaw29_SawChoices.calls (k : Nat) (A0 : Option Addr) (c0 : Nat) (l0 : List (S37)) (a1_0 : Int) (a1_1 : Int) (a1_2 : Int) (a1_3 : Int) (a1_4 : Int) (a1_5 : Int) (a2 : Int) (a3 : Int) (r : Bool) (w : World) (hr0 : Kd.C k37 w A0 l0.length l0) (hc0 : l0.length ≤ c0) (h : gangsawlaw29_SawChoices.f k l0 a1_0 a1_1 a1_2 a1_3 a1_4 a1_5 a2 a3 = some r) (hr : r = true) :
  Calls Try.prog 4 #[.slice A0 l0.length c0, .agg #[.int .i64 a1_0, .int .i64 a1_1, .int .i64 a1_2, .int .i64 a1_3, .int .i64 a1_4, .int .i64 a1_5], .int .i64 a2, .int .i64 a3] w fun e w' => e = .returned (.bool r) ∧ Below w.heap.size w w' := by
 have hu30 := Try.underlying30
 have HR0 := Aside0.mk hr0
 have HC0 := Aside0.mk hc0
 clear hr0 hc0
 have HB := Aside0.mk (Below.refl w.heap.size w)
 have H : ((gangsawlaw29_awake.f).bind fun t218 => (if t218 = true then ((gangsawref29_Few.f k l0).bind fun t219 => (if t219 = true then ((saw_Choose.f k l0 a1_0 a1_1 a1_2 a1_3 a1_4 a1_5 a2 a3).bind fun bt220 => ((gangsawref29_Check.f k l0).bind fun t222 => (if t222 = 0 then ((gangsawref29_Cut.f a1_0 a1_1 a1_2 a1_3 a1_4 a1_5 a2 a3).bind fun t223 => (gangsawlaw29_SawChoices.j0 k l0 a2 a3 bt220.1 bt220.2 t223 a1_0 a1_1 a1_2 a1_3 a1_4 a1_5)) else (gangsawlaw29_SawChoices.j0 k l0 a2 a3 bt220.1 bt220.2 t222 a1_0 a1_1 a1_2 a1_3 a1_4 a1_5)))) else (some true))) else (some false))) = some r := h
 clear h
 replace H := Option.bind_eq_some_iff.mp H
 obtain ⟨t218, A50, H⟩ := H
 replace H : (if t218 = true then ((gangsawref29_Few.f k l0).bind fun t219 => (if t219 = true then ((saw_Choose.f k l0 a1_0 a1_1 a1_2 a1_3 a1_4 a1_5 a2 a3).bind fun bt220 => ((gangsawref29_Check.f k l0).bind fun t222 => (if t222 = 0 then ((gangsawref29_Cut.f a1_0 a1_1 a1_2 a1_3 a1_4 a1_5 a2 a3).bind fun t223 => (gangsawlaw29_SawChoices.j0 k l0 a2 a3 bt220.1 bt220.2 t223 a1_0 a1_1 a1_2 a1_3 a1_4 a1_5)) else (gangsawlaw29_SawChoices.j0 k l0 a2 a3 bt220.1 bt220.2 t222 a1_0 a1_1 a1_2 a1_3 a1_4 a1_5)))) else (some true))) else (some false)) = some r := H
 have A5 := Aside0.mk A50
 clear A50
 by_cases c6 : t218 = true
 ·subst c6
  have H1 : ((gangsawref29_Few.f k l0).bind fun t219 => (if t219 = true then ((saw_Choose.f k l0 a1_0 a1_1 a1_2 a1_3 a1_4 a1_5 a2 a3).bind fun bt220 => ((gangsawref29_Check.f k l0).bind fun t222 => (if t222 = 0 then ((gangsawref29_Cut.f a1_0 a1_1 a1_2 a1_3 a1_4 a1_5 a2 a3).bind fun t223 => (gangsawlaw29_SawChoices.j0 k l0 a2 a3 bt220.1 bt220.2 t223 a1_0 a1_1 a1_2 a1_3 a1_4 a1_5)) else (gangsawlaw29_SawChoices.j0 k l0 a2 a3 bt220.1 bt220.2 t222 a1_0 a1_1 a1_2 a1_3 a1_4 a1_5)))) else (some true))) = some r := by rw [if_pos rfl] at H; exact H
  clear H
  have H := H1
  clear H1
  replace H := Option.bind_eq_some_iff.mp H
  obtain ⟨t219, A70, H⟩ := H
  replace H : (if t219 = true then ((saw_Choose.f k l0 a1_0 a1_1 a1_2 a1_3 a1_4 a1_5 a2 a3).bind fun bt220 => ((gangsawref29_Check.f k l0).bind fun t222 => (if t222 = 0 then ((gangsawref29_Cut.f a1_0 a1_1 a1_2 a1_3 a1_4 a1_5 a2 a3).bind fun t223 => (gangsawlaw29_SawChoices.j0 k l0 a2 a3 bt220.1 bt220.2 t223 a1_0 a1_1 a1_2 a1_3 a1_4 a1_5)) else (gangsawlaw29_SawChoices.j0 k l0 a2 a3 bt220.1 bt220.2 t222 a1_0 a1_1 a1_2 a1_3 a1_4 a1_5)))) else (some true)) = some r := H
  have A7 := Aside0.mk A70
  clear A70
  by_cases c8 : t219 = true
  ·subst c8
   have H1 : ((saw_Choose.f k l0 a1_0 a1_1 a1_2 a1_3 a1_4 a1_5 a2 a3).bind fun bt220 => ((gangsawref29_Check.f k l0).bind fun t222 => (if t222 = 0 then ((gangsawref29_Cut.f a1_0 a1_1 a1_2 a1_3 a1_4 a1_5 a2 a3).bind fun t223 => (gangsawlaw29_SawChoices.j0 k l0 a2 a3 bt220.1 bt220.2 t223 a1_0 a1_1 a1_2 a1_3 a1_4 a1_5)) else (gangsawlaw29_SawChoices.j0 k l0 a2 a3 bt220.1 bt220.2 t222 a1_0 a1_1 a1_2 a1_3 a1_4 a1_5)))) = some r := by rw [if_pos rfl] at H; exact H
   clear H
   have H := H1
   clear H1
   replace H := Option.bind_eq_some_iff.mp H
   obtain ⟨⟨t220, t221⟩, A90, H⟩ := H
   replace H : ((gangsawref29_Check.f k l0).bind fun t222 => (if t222 = 0 then ((gangsawref29_Cut.f a1_0 a1_1 a1_2 a1_3 a1_4 a1_5 a2 a3).bind fun t223 => (gangsawlaw29_SawChoices.j0 k l0 a2 a3 t220 t221 t223 a1_0 a1_1 a1_2 a1_3 a1_4 a1_5)) else (gangsawlaw29_SawChoices.j0 k l0 a2 a3 t220 t221 t222 a1_0 a1_1 a1_2 a1_3 a1_4 a1_5))) = some r := H
   have A9 := Aside0.mk A90
   clear A90
   replace H := Option.bind_eq_some_iff.mp H
   obtain ⟨t222, A100, H⟩ := H
   replace H : (if t222 = 0 then ((gangsawref29_Cut.f a1_0 a1_1 a1_2 a1_3 a1_4 a1_5 a2 a3).bind fun t223 => (gangsawlaw29_SawChoices.j0 k l0 a2 a3 t220 t221 t223 a1_0 a1_1 a1_2 a1_3 a1_4 a1_5)) else (gangsawlaw29_SawChoices.j0 k l0 a2 a3 t220 t221 t222 a1_0 a1_1 a1_2 a1_3 a1_4 a1_5)) = some r := H
   have A10 := Aside0.mk A100
   clear A100
   have HC11 := Aside0.mk H
   clear H
   go_enter Try.func4, Try.ntmps4
   go_upto_if 29 with (first | ((with_reducible refine gate_dst (N := 5) rfl ?_); refine box_event ?hg (N := 5) ?hd (cs := #[.int .i64 a1_0, .int .i64 a1_1, .int .i64 a1_2, .int .i64 a1_3, .int .i64 a1_4, .int .i64 a1_5]) (t := 30) ?hr ?_; (case hd => rfl); (case hg => rfl); (case hr => first | (go_simp; done) | (go_simp; rfl)); intro gb217 hg w12 hbox hb; have n0_ := Aside0.mk (below_step (by repeat (first | (with_reducible first | exact HB.out | apply below_alloc | apply pw_below_drewN | apply below_drew1) | exact HB.out)) hb); have n1_ := Aside0.mk (hbox); have n2_ := Aside0.mk ((by rw [hg]; exact (below_size (by repeat (first | (with_reducible first | exact HB.out | apply below_alloc | apply pw_below_drewN | apply below_drew1) | exact HB.out))) : w.heap.size ≤ gb217)); have n3_ := Aside0.mk ((by rw [hg]; exact (below_size (by repeat (first | (with_reducible first | exact HB.out | apply below_alloc | apply pw_below_drewN | apply below_drew1) | exact HB.out))) : w.heap.size ≤ gb217)); clear HB; have HB := n0_; have BK217 := n1_; have GW217 := n2_; have GE217 := n3_; clear n0_ n1_ n2_ n3_; clear hb hbox hg) | ((with_reducible refine gate_callee (f := 8) rfl ?_); refine goesL_ (some 13) rfl rfl Try.func8 (by kernel_rfl) rfl #[] rfl (by (try simp only [List.map_toArray, List.map_cons, List.map_nil]); first | done | rfl | (simp only [List.length_drop, List.length_take]; rfl)) ?_; (with_reducible refine (gangsawlaw29_awake.calls  true _ A5.out).mono ?_); rintro e w13 ⟨rfl, hb⟩; refine ⟨_, rfl, ?_⟩; have n0_ := Aside0.mk (blk_below (g := gb217) (o := .cells #[.int .i64 a1_0, .int .i64 a1_1, .int .i64 a1_2, .int .i64 a1_3, .int .i64 a1_4, .int .i64 a1_5] 30 (0, 0)) (by (with_reducible repeat (first | refine blk_drewN ?_ _ | refine blk_drew ?_ | refine blk_alloc ?_ _)); exact BK217.out) hb); have n1_ := Aside0.mk (below_step (by repeat (first | (with_reducible first | exact HB.out | apply below_alloc | apply pw_below_drewN | apply below_drew1 | refine below_set ?_ GE217.out) | exact HB.out)) hb); clear BK217; clear HB; have BK217 := n0_; have HB := n1_; clear n0_ n1_; (try clear hb); (try clear hb2); (try clear hk); (try clear hi)) | ((with_reducible refine gate_callee (f := 9) rfl ?_); refine goesL_ (some 16) rfl rfl Try.func9 (by kernel_rfl) rfl #[.slice A0 l0.length c0] rfl (by (try simp only [List.map_toArray, List.map_cons, List.map_nil]); first | done | rfl | (simp only [List.length_drop, List.length_take]; rfl)) ?_; (with_reducible refine (gangsawref29_Few.calls k _ _ l0 true _ ?side1 ?side2 A7.out).mono ?_); (case side1 => repeat (first | exact (Kd.C_below HR0.out HB.out) | (with_reducible refine Kd.C_alloc ?_ _) | (with_reducible refine Kd.C_drewN ?_ _) | (with_reducible refine Kd.C_drew ?_))); (case side2 => exact HC0.out); rintro e w' ⟨rfl, ⟨nd, rfl⟩⟩; refine ⟨_, rfl, ?_⟩; have hcz14_0 : w13.cell? ⟨gb217, 0, none⟩ = some (.int .i64 a1_0) := (blk_cell BK217.out 0).trans rfl; have hcz14_1 : w13.cell? ⟨gb217, 1, none⟩ = some (.int .i64 a1_1) := (blk_cell BK217.out 1).trans rfl; have hcz14_2 : w13.cell? ⟨gb217, 2, none⟩ = some (.int .i64 a1_2) := (blk_cell BK217.out 2).trans rfl; have hcz14_3 : w13.cell? ⟨gb217, 3, none⟩ = some (.int .i64 a1_3) := (blk_cell BK217.out 3).trans rfl; have hcz14_4 : w13.cell? ⟨gb217, 4, none⟩ = some (.int .i64 a1_4) := (blk_cell BK217.out 4).trans rfl; have hcz14_5 : w13.cell? ⟨gb217, 5, none⟩ = some (.int .i64 a1_5) := (blk_cell BK217.out 5).trans rfl; have hfz14_0 := blk_frozen BK217.out 0; have hfz14_1 := blk_frozen BK217.out 1; have hfz14_2 := blk_frozen BK217.out 2; have hfz14_3 := blk_frozen BK217.out 3; have hfz14_4 := blk_frozen BK217.out 4; have hfz14_5 := blk_frozen BK217.out 5) | ((with_reducible refine gate_callee (f := 12) rfl ?_); refine goesL_ (some 23) rfl rfl Try.func12 (by kernel_rfl) rfl #[.slice A0 l0.length c0, .agg #[.int .i64 a1_0, .int .i64 a1_1, .int .i64 a1_2, .int .i64 a1_3, .int .i64 a1_4, .int .i64 a1_5], .int .i64 a2, .int .i64 a3] rfl (by (try simp only [List.map_toArray, List.map_cons, List.map_nil]); first | done | rfl | (simp only [List.length_drop, List.length_take]; rfl)) ?_; (with_reducible refine (saw_Choose.calls k _ _ l0 a1_0 a1_1 a1_2 a1_3 a1_4 a1_5 a2 a3 t220 t221 _ ?side1 ?side2 A9.out).mono ?_); (case side1 => repeat (first | exact (Kd.C_below HR0.out (by repeat (first | (with_reducible first | exact HB.out | apply below_alloc | apply pw_below_drewN | apply below_drew1 | refine below_set ?_ GE217.out) | exact HB.out))) | (with_reducible refine Kd.C_alloc ?_ _) | (with_reducible refine Kd.C_drewN ?_ _) | (with_reducible refine Kd.C_drew ?_))); (case side2 => exact HC0.out); rintro e w15 ⟨rfl, hb⟩; refine ⟨_, rfl, ?_⟩; have n0_ := Aside0.mk (blk_below (g := gb217) (o := .cells #[.int .i64 a1_0, .int .i64 a1_1, .int .i64 a1_2, .int .i64 a1_3, .int .i64 a1_4, .int .i64 a1_5] 30 (0, 0)) (by (with_reducible repeat (first | refine blk_drewN ?_ _ | refine blk_drew ?_ | refine blk_alloc ?_ _)); exact BK217.out) hb); have n1_ := Aside0.mk (below_step (by repeat (first | (with_reducible first | exact HB.out | apply below_alloc | apply pw_below_drewN | apply below_drew1 | refine below_set ?_ GE217.out) | exact HB.out)) hb); clear BK217; clear HB; have BK217 := n0_; have HB := n1_; clear n0_ n1_; (try clear hb); (try clear hb2); (try clear hk); (try clear hi)) | ((with_reducible refine gate_callee (f := 11) rfl ?_); refine goesL_ (some 27) rfl rfl Try.func11 (by kernel_rfl) rfl #[.slice A0 l0.length c0] rfl (by (try simp only [List.map_toArray, List.map_cons, List.map_nil]); first | done | rfl | (simp only [List.length_drop, List.length_take]; rfl)) ?_; (with_reducible refine (gangsawref29_Check.calls k _ _ l0 t222 _ ?side1 ?side2 A10.out).mono ?_); (case side1 => repeat (first | exact (Kd.C_below HR0.out HB.out) | (with_reducible refine Kd.C_alloc ?_ _) | (with_reducible refine Kd.C_drewN ?_ _) | (with_reducible refine Kd.C_drew ?_))); (case side2 => exact HC0.out); rintro e w16 ⟨rfl, hb⟩; refine ⟨_, rfl, ?_⟩; have n0_ := Aside0.mk (blk_below (g := gb217) (o := .cells #[.int .i64 a1_0, .int .i64 a1_1, .int .i64 a1_2, .int .i64 a1_3, .int .i64 a1_4, .int .i64 a1_5] 30 (0, 0)) (by (with_reducible repeat (first | refine blk_drewN ?_ _ | refine blk_drew ?_ | refine blk_alloc ?_ _)); exact BK217.out) hb); have n1_ := Aside0.mk (below_step (by repeat (first | (with_reducible first | exact HB.out | apply below_alloc | apply pw_below_drewN | apply below_drew1 | refine below_set ?_ GE217.out) | exact HB.out)) hb); clear BK217; clear HB; have BK217 := n0_; have HB := n1_; clear n0_ n1_; (try clear hb); (try clear hb2); (try clear hk); (try clear hi)))
   (try simp only [Act.put, List.setIfInBounds_toArray, List.set_cons_zero, List.set_cons_succ])
   go_cut [11] (fun v11 wc => ∃ (kq : Nat) (x11_10 : Int), v11 = .int .i64 x11_10 ∧ Aside0 (gangsawlaw29_SawChoices.j0 kq l0 a2 a3 t220 t221 x11_10 a1_0 a1_1 a1_2 a1_3 a1_4 a1_5 = some r) ∧ Aside0 (kq ≤ k) ∧ Aside0 (wc.heap[gb217]? = some (.cells #[.int .i64 a1_0, .int .i64 a1_1, .int .i64 a1_2, .int .i64 a1_3, .int .i64 a1_4, .int .i64 a1_5] 30 (0, 0))) ∧ Aside0 (Below w.heap.size w wc))
   case first =>
    have H := HC11.out
    clear HC11
    by_cases c17 : t222 = 0
    ·rw [if_pos c17] at H
     have c17b0 : (t222 == 0) = true := beq_iff_eq.mpr c17
     have c17b1 : (t222 != 0) = false := bne_eq_false_iff_eq.mpr c17
     clear c17
     (first | rw [c17b0] | (simp only [i64_w, i32_w]; rw [c17b0]) | skip)
     replace H := Option.bind_eq_some_iff.mp H
     obtain ⟨t223, A180, H⟩ := H
     replace H : (gangsawlaw29_SawChoices.j0 k l0 a2 a3 t220 t221 t223 a1_0 a1_1 a1_2 a1_3 a1_4 a1_5) = some r := H
     have A18 := Aside0.mk A180
     clear A180
     have H' := Aside0.mk H
     clear H
     have hcz19_0 : w16.cell? ⟨gb217, 0, none⟩ = some (.int .i64 a1_0) := (blk_cell BK217.out 0).trans rfl
     have hcz19_1 : w16.cell? ⟨gb217, 1, none⟩ = some (.int .i64 a1_1) := (blk_cell BK217.out 1).trans rfl
     have hcz19_2 : w16.cell? ⟨gb217, 2, none⟩ = some (.int .i64 a1_2) := (blk_cell BK217.out 2).trans rfl
     have hcz19_3 : w16.cell? ⟨gb217, 3, none⟩ = some (.int .i64 a1_3) := (blk_cell BK217.out 3).trans rfl
     have hcz19_4 : w16.cell? ⟨gb217, 4, none⟩ = some (.int .i64 a1_4) := (blk_cell BK217.out 4).trans rfl
     have hcz19_5 : w16.cell? ⟨gb217, 5, none⟩ = some (.int .i64 a1_5) := (blk_cell BK217.out 5).trans rfl
     have hfz19_0 := blk_frozen BK217.out 0
     have hfz19_1 := blk_frozen BK217.out 1
     have hfz19_2 := blk_frozen BK217.out 2
     have hfz19_3 := blk_frozen BK217.out 3
     have hfz19_4 := blk_frozen BK217.out 4
     have hfz19_5 := blk_frozen BK217.out 5
     go_wp2_with (first | ((with_reducible refine gate_callee (f := 13) rfl ?_); refine goesL_ (some 33) rfl rfl Try.func13 (by kernel_rfl) rfl #[.agg #[.int .i64 a1_0, .int .i64 a1_1, .int .i64 a1_2, .int .i64 a1_3, .int .i64 a1_4, .int .i64 a1_5], .int .i64 a2, .int .i64 a3] rfl (by (try simp only [List.map_toArray, List.map_cons, List.map_nil]); first | done | rfl | (simp only [List.length_drop, List.length_take]; rfl)) ?_; (with_reducible refine (gangsawref29_Cut.calls a1_0 a1_1 a1_2 a1_3 a1_4 a1_5 a2 a3 t223 _ A18.out).mono ?_); rintro e w20 ⟨rfl, hb⟩; refine ⟨_, rfl, ?_⟩; have n0_ := Aside0.mk (blk_below (g := gb217) (o := .cells #[.int .i64 a1_0, .int .i64 a1_1, .int .i64 a1_2, .int .i64 a1_3, .int .i64 a1_4, .int .i64 a1_5] 30 (0, 0)) (by (with_reducible repeat (first | refine blk_drewN ?_ _ | refine blk_drew ?_ | refine blk_alloc ?_ _)); exact BK217.out) hb); have n1_ := Aside0.mk (below_step (by repeat (first | (with_reducible first | exact HB.out | apply below_alloc | apply pw_below_drewN | apply below_drew1 | refine below_set ?_ GE217.out) | exact HB.out)) hb); clear BK217; clear HB; have BK217 := n0_; have HB := n1_; clear n0_ n1_; (try clear hb); (try clear hb2); (try clear hk); (try clear hi)))
     go_meet
     case rel => exact ⟨_, (t223), (by first | rfl | (simp; done) | (simp [*]; done)), H', ⟨by first | omega | exact Nat.le_refl _⟩, ⟨by (with_reducible repeat (first | refine blk_drewN ?_ _ | refine blk_drew ?_ | refine blk_alloc ?_ _)); exact BK217.out⟩, ⟨by repeat (first | (with_reducible first | exact HB.out | apply below_alloc | apply pw_below_drewN | apply below_drew1 | refine below_set ?_ GE217.out) | exact HB.out)⟩⟩
    ·rw [if_neg c17] at H
     have c17b0 : (t222 == 0) = false := beq_eq_false_iff_ne.mpr c17
     have c17b1 : (t222 != 0) = true := bne_iff_ne.mpr c17
     (first | rw [c17b0] | (simp only [i64_w, i32_w]; rw [c17b0]) | skip)
     have H' := Aside0.mk H
     clear H
     go_wp2
     go_meet
     case rel => exact ⟨_, (t222), (by first | rfl | (simp; done) | (simp [*]; done)), H', ⟨by first | omega | exact Nat.le_refl _⟩, ⟨by (with_reducible repeat (first | refine blk_drewN ?_ _ | refine blk_drew ?_ | refine blk_alloc ?_ _)); exact BK217.out⟩, ⟨by repeat (first | (with_reducible first | exact HB.out | apply below_alloc | apply pw_below_drewN | apply below_drew1 | refine below_set ?_ GE217.out) | exact HB.out)⟩⟩
   case rest =>
    clear HC11
    try clear c1
    try clear p2
    try clear c4
    try clear c6
    try clear c8
    try clear c9
    try clear c11
    try clear c12
    try clear c13
    try clear c17
    try clear c17b0
    try clear c17b1
    try clear hcz14_0
    try clear hcz14_1
    try clear hcz14_2
    try clear hcz14_3
    try clear hcz14_4
    try clear hcz14_5
    try clear hcz19_0
    try clear hcz19_1
    try clear hcz19_2
    try clear hcz19_3
    try clear hcz19_4
    try clear hcz19_5
    try clear hfz14_0
    try clear hfz14_1
    try clear hfz14_2
    try clear hfz14_3
    try clear hfz14_4
    try clear hfz14_5
    try clear hfz19_0
    try clear hfz19_1
    try clear hfz19_2
    try clear hfz19_3
    try clear hfz19_4
    try clear hfz19_5
    obtain ⟨kq, x11_10, rfl, HA, HJ10, BK217, HB⟩ := hcut
    cases kq with
    | zero => exact absurd HA.out (by simp [gangsawlaw29_SawChoices.j0])
    | succ kj10 =>
     have H := HA.out
     clear HA
     simp only [gangsawlaw29_SawChoices.j0] at H
     by_cases c21 : x11_10 = 0
     ·rw [if_pos c21] at H
      have c21b0 : (x11_10 == 0) = true := beq_iff_eq.mpr c21
      have c21b1 : (x11_10 != 0) = false := bne_eq_false_iff_eq.mpr c21
      clear c21
      replace H := Option.bind_eq_some_iff.mp H
      obtain ⟨t224, A220, H⟩ := H
      replace H : (if t224 < 0 then (if t221 = 9 then (some (t220 == 0)) else (some false)) else (if t221 = 0 then (some (t220 == t224)) else (some false))) = some r := H
      have A22 := Aside0.mk A220
      clear A220
      by_cases c23 : t224 < 0
      ·rw [if_pos c23] at H
       have c23b0 : decide (t224 < 0) = true := decide_eq_true c23
       clear c23
       by_cases c24 : t221 = 9
       ·rw [if_pos c24] at H
        have c24b0 : (t221 == 9) = true := beq_iff_eq.mpr c24
        have c24b1 : (t221 != 9) = false := bne_eq_false_iff_eq.mpr c24
        clear c24
        obtain rfl := Option.some.inj H
        simp only [Option.some.injEq, Prod.mk.injEq] at H
        obtain ⟨rfl⟩ := H
        have hcz25_0 : wc.cell? ⟨gb217, 0, none⟩ = some (.int .i64 a1_0) := (blk_cell BK217.out 0).trans rfl
        have hcz25_1 : wc.cell? ⟨gb217, 1, none⟩ = some (.int .i64 a1_1) := (blk_cell BK217.out 1).trans rfl
        have hcz25_2 : wc.cell? ⟨gb217, 2, none⟩ = some (.int .i64 a1_2) := (blk_cell BK217.out 2).trans rfl
        have hcz25_3 : wc.cell? ⟨gb217, 3, none⟩ = some (.int .i64 a1_3) := (blk_cell BK217.out 3).trans rfl
        have hcz25_4 : wc.cell? ⟨gb217, 4, none⟩ = some (.int .i64 a1_4) := (blk_cell BK217.out 4).trans rfl
        have hcz25_5 : wc.cell? ⟨gb217, 5, none⟩ = some (.int .i64 a1_5) := (blk_cell BK217.out 5).trans rfl
        have hfz25_0 := blk_frozen BK217.out 0
        have hfz25_1 := blk_frozen BK217.out 1
        have hfz25_2 := blk_frozen BK217.out 2
        have hfz25_3 := blk_frozen BK217.out 3
        have hfz25_4 := blk_frozen BK217.out 4
        have hfz25_5 := blk_frozen BK217.out 5
        go_wp2_with (first | ((with_reducible refine gate_callee (f := 14) rfl ?_); refine goesL_ (some 47) rfl rfl Try.func14 (by kernel_rfl) rfl #[.slice A0 l0.length c0, .agg #[.int .i64 a1_0, .int .i64 a1_1, .int .i64 a1_2, .int .i64 a1_3, .int .i64 a1_4, .int .i64 a1_5], .int .i64 a2, .int .i64 a3] rfl (by (try simp only [List.map_toArray, List.map_cons, List.map_nil]); first | done | rfl | (simp only [List.length_drop, List.length_take]; rfl)) ?_; (with_reducible refine (gangsawref29_Choose.calls kj10 _ _ l0 a1_0 a1_1 a1_2 a1_3 a1_4 a1_5 a2 a3 t224 _ ?side1 ?side2 A22.out).mono ?_); (case side1 => repeat (first | exact (Kd.C_below HR0.out HB.out) | (with_reducible refine Kd.C_alloc ?_ _) | (with_reducible refine Kd.C_drewN ?_ _) | (with_reducible refine Kd.C_drew ?_))); (case side2 => exact HC0.out); rintro e w26 ⟨rfl, hb⟩; refine ⟨_, rfl, ?_⟩; have n0_ := Aside0.mk (blk_below (g := gb217) (o := .cells #[.int .i64 a1_0, .int .i64 a1_1, .int .i64 a1_2, .int .i64 a1_3, .int .i64 a1_4, .int .i64 a1_5] 30 (0, 0)) (by (with_reducible repeat (first | refine blk_drewN ?_ _ | refine blk_drew ?_ | refine blk_alloc ?_ _)); exact BK217.out) hb); have n1_ := Aside0.mk (below_step (by repeat (first | (with_reducible first | exact HB.out | apply below_alloc | apply pw_below_drewN | apply below_drew1 | refine below_set ?_ GE217.out) | exact HB.out)) hb); clear BK217; clear HB; have BK217 := n0_; have HB := n1_; clear n0_ n1_; (try clear hb); (try clear hb2); (try clear hk); (try clear hi)))
        go_ret
        exact ⟨by first | rfl | (simp [errW_none, errW_some] <;> rfl) | (simp [*, errW_none, errW_some] <;> rfl), by repeat (first | (with_reducible first | exact HB.out | apply below_alloc | apply pw_below_drewN | apply below_drew1 | refine below_set ?_ GE217.out) | exact HB.out)⟩
       ·rw [if_neg c24] at H
        have c24b0 : (t221 == 9) = false := beq_eq_false_iff_ne.mpr c24
        have c24b1 : (t221 != 9) = true := bne_iff_ne.mpr c24
        obtain rfl := Option.some.inj H
        exact absurd hr (by decide)
      ·rw [if_neg c23] at H
       have c23b0 : decide (t224 < 0) = false := decide_eq_false c23
       clear c23
       by_cases c27 : t221 = 0
       ·rw [if_pos c27] at H
        have c27b0 : (t221 == 0) = true := beq_iff_eq.mpr c27
        have c27b1 : (t221 != 0) = false := bne_eq_false_iff_eq.mpr c27
        clear c27
        obtain rfl := Option.some.inj H
        simp only [Option.some.injEq, Prod.mk.injEq] at H
        obtain ⟨rfl⟩ := H
        have hcz28_0 : wc.cell? ⟨gb217, 0, none⟩ = some (.int .i64 a1_0) := (blk_cell BK217.out 0).trans rfl
        have hcz28_1 : wc.cell? ⟨gb217, 1, none⟩ = some (.int .i64 a1_1) := (blk_cell BK217.out 1).trans rfl
        have hcz28_2 : wc.cell? ⟨gb217, 2, none⟩ = some (.int .i64 a1_2) := (blk_cell BK217.out 2).trans rfl
        have hcz28_3 : wc.cell? ⟨gb217, 3, none⟩ = some (.int .i64 a1_3) := (blk_cell BK217.out 3).trans rfl
        have hcz28_4 : wc.cell? ⟨gb217, 4, none⟩ = some (.int .i64 a1_4) := (blk_cell BK217.out 4).trans rfl
        have hcz28_5 : wc.cell? ⟨gb217, 5, none⟩ = some (.int .i64 a1_5) := (blk_cell BK217.out 5).trans rfl
        have hfz28_0 := blk_frozen BK217.out 0
        have hfz28_1 := blk_frozen BK217.out 1
        have hfz28_2 := blk_frozen BK217.out 2
        have hfz28_3 := blk_frozen BK217.out 3
        have hfz28_4 := blk_frozen BK217.out 4
        have hfz28_5 := blk_frozen BK217.out 5
        go_wp2_with (first | ((with_reducible refine gate_callee (f := 14) rfl ?_); refine goesL_ (some 47) rfl rfl Try.func14 (by kernel_rfl) rfl #[.slice A0 l0.length c0, .agg #[.int .i64 a1_0, .int .i64 a1_1, .int .i64 a1_2, .int .i64 a1_3, .int .i64 a1_4, .int .i64 a1_5], .int .i64 a2, .int .i64 a3] rfl (by (try simp only [List.map_toArray, List.map_cons, List.map_nil]); first | done | rfl | (simp only [List.length_drop, List.length_take]; rfl)) ?_; (with_reducible refine (gangsawref29_Choose.calls kj10 _ _ l0 a1_0 a1_1 a1_2 a1_3 a1_4 a1_5 a2 a3 t224 _ ?side1 ?side2 A22.out).mono ?_); (case side1 => repeat (first | exact (Kd.C_below HR0.out HB.out) | (with_reducible refine Kd.C_alloc ?_ _) | (with_reducible refine Kd.C_drewN ?_ _) | (with_reducible refine Kd.C_drew ?_))); (case side2 => exact HC0.out); rintro e w29 ⟨rfl, hb⟩; refine ⟨_, rfl, ?_⟩; have n0_ := Aside0.mk (blk_below (g := gb217) (o := .cells #[.int .i64 a1_0, .int .i64 a1_1, .int .i64 a1_2, .int .i64 a1_3, .int .i64 a1_4, .int .i64 a1_5] 30 (0, 0)) (by (with_reducible repeat (first | refine blk_drewN ?_ _ | refine blk_drew ?_ | refine blk_alloc ?_ _)); exact BK217.out) hb); have n1_ := Aside0.mk (below_step (by repeat (first | (with_reducible first | exact HB.out | apply below_alloc | apply pw_below_drewN | apply below_drew1 | refine below_set ?_ GE217.out) | exact HB.out)) hb); clear BK217; clear HB; have BK217 := n0_; have HB := n1_; clear n0_ n1_; (try clear hb); (try clear hb2); (try clear hk); (try clear hi)))
        go_ret
        exact ⟨by first | rfl | (simp [errW_none, errW_some] <;> rfl) | (simp [*, errW_none, errW_some] <;> rfl), by repeat (first | (with_reducible first | exact HB.out | apply below_alloc | apply pw_below_drewN | apply below_drew1 | refine below_set ?_ GE217.out) | exact HB.out)⟩
       ·rw [if_neg c27] at H
        have c27b0 : (t221 == 0) = false := beq_eq_false_iff_ne.mpr c27
        have c27b1 : (t221 != 0) = true := bne_iff_ne.mpr c27
        obtain rfl := Option.some.inj H
        exact absurd hr (by decide)
     ·rw [if_neg c21] at H
      have c21b0 : (x11_10 == 0) = false := beq_eq_false_iff_ne.mpr c21
      have c21b1 : (x11_10 != 0) = true := bne_iff_ne.mpr c21
      by_cases c30 : t221 = x11_10
      ·rw [if_pos c30] at H
       have c30b0 : (t221 == x11_10) = true := beq_iff_eq.mpr c30
       have c30b1 : (t221 != x11_10) = false := bne_eq_false_iff_eq.mpr c30
       clear c30
       obtain rfl := Option.some.inj H
       simp only [Option.some.injEq, Prod.mk.injEq] at H
       obtain ⟨rfl⟩ := H
       go_wp2
       go_ret
       exact ⟨by first | rfl | (simp [errW_none, errW_some] <;> rfl) | (simp [*, errW_none, errW_some] <;> rfl), by repeat (first | (with_reducible first | exact HB.out | apply below_alloc | apply pw_below_drewN | apply below_drew1 | refine below_set ?_ GE217.out) | exact HB.out)⟩
      ·rw [if_neg c30] at H
       have c30b0 : (t221 == x11_10) = false := beq_eq_false_iff_ne.mpr c30
       have c30b1 : (t221 != x11_10) = true := bne_iff_ne.mpr c30
       obtain rfl := Option.some.inj H
       exact absurd hr (by decide)
  ·replace c8 := Bool.eq_false_iff.mpr c8
   subst c8
   have H1 : (some true) = some r := by rw [if_neg (show ¬ (false = true) by decide)] at H; exact H
   clear H
   have H := H1
   clear H1
   obtain rfl := Option.some.inj H
   simp only [Option.some.injEq, Prod.mk.injEq] at H
   obtain ⟨rfl⟩ := H
   go_enter Try.func4, Try.ntmps4
   go_wp2_with (first | ((with_reducible refine gate_dst (N := 5) rfl ?_); refine box_event ?hg (N := 5) ?hd (cs := #[.int .i64 a1_0, .int .i64 a1_1, .int .i64 a1_2, .int .i64 a1_3, .int .i64 a1_4, .int .i64 a1_5]) (t := 30) ?hr ?_; (case hd => rfl); (case hg => rfl); (case hr => first | (go_simp; done) | (go_simp; rfl)); intro gb217 hg w31 hbox hb; have n0_ := Aside0.mk (below_step (by repeat (first | (with_reducible first | exact HB.out | apply below_alloc | apply pw_below_drewN | apply below_drew1) | exact HB.out)) hb); have n1_ := Aside0.mk (hbox); have n2_ := Aside0.mk ((by rw [hg]; exact (below_size (by repeat (first | (with_reducible first | exact HB.out | apply below_alloc | apply pw_below_drewN | apply below_drew1) | exact HB.out))) : w.heap.size ≤ gb217)); have n3_ := Aside0.mk ((by rw [hg]; exact (below_size (by repeat (first | (with_reducible first | exact HB.out | apply below_alloc | apply pw_below_drewN | apply below_drew1) | exact HB.out))) : w.heap.size ≤ gb217)); clear HB; have HB := n0_; have BK217 := n1_; have GW217 := n2_; have GE217 := n3_; clear n0_ n1_ n2_ n3_; clear hb hbox hg) | ((with_reducible refine gate_callee (f := 8) rfl ?_); refine goesL_ (some 13) rfl rfl Try.func8 (by kernel_rfl) rfl #[] rfl (by (try simp only [List.map_toArray, List.map_cons, List.map_nil]); first | done | rfl | (simp only [List.length_drop, List.length_take]; rfl)) ?_; (with_reducible refine (gangsawlaw29_awake.calls  true _ A5.out).mono ?_); rintro e w32 ⟨rfl, hb⟩; refine ⟨_, rfl, ?_⟩; have n0_ := Aside0.mk (blk_below (g := gb217) (o := .cells #[.int .i64 a1_0, .int .i64 a1_1, .int .i64 a1_2, .int .i64 a1_3, .int .i64 a1_4, .int .i64 a1_5] 30 (0, 0)) (by (with_reducible repeat (first | refine blk_drewN ?_ _ | refine blk_drew ?_ | refine blk_alloc ?_ _)); exact BK217.out) hb); have n1_ := Aside0.mk (below_step (by repeat (first | (with_reducible first | exact HB.out | apply below_alloc | apply pw_below_drewN | apply below_drew1 | refine below_set ?_ GE217.out) | exact HB.out)) hb); clear BK217; clear HB; have BK217 := n0_; have HB := n1_; clear n0_ n1_; (try clear hb); (try clear hb2); (try clear hk); (try clear hi)) | ((with_reducible refine gate_callee (f := 9) rfl ?_); refine goesL_ (some 16) rfl rfl Try.func9 (by kernel_rfl) rfl #[.slice A0 l0.length c0] rfl (by (try simp only [List.map_toArray, List.map_cons, List.map_nil]); first | done | rfl | (simp only [List.length_drop, List.length_take]; rfl)) ?_; (with_reducible refine (gangsawref29_Few.calls k _ _ l0 false _ ?side1 ?side2 A7.out).mono ?_); (case side1 => repeat (first | exact (Kd.C_below HR0.out HB.out) | (with_reducible refine Kd.C_alloc ?_ _) | (with_reducible refine Kd.C_drewN ?_ _) | (with_reducible refine Kd.C_drew ?_))); (case side2 => exact HC0.out); rintro e w' ⟨rfl, ⟨nd, rfl⟩⟩; refine ⟨_, rfl, ?_⟩))
   go_ret
   exact ⟨by first | rfl | (simp [errW_none, errW_some] <;> rfl) | (simp [*, errW_none, errW_some] <;> rfl), by repeat (first | (with_reducible first | exact HB.out | apply below_alloc | apply pw_below_drewN | apply below_drew1 | refine below_set ?_ GE217.out) | exact HB.out)⟩
 ·replace c6 := Bool.eq_false_iff.mpr c6
  subst c6
  have H1 : (some false) = some r := by rw [if_neg (show ¬ (false = true) by decide)] at H; exact H
  clear H
  have H := H1
  clear H1
  obtain rfl := Option.some.inj H
  exact absurd hr (by decide)

end Go.Proofs.Ytlbpdhjdlnhciaa.P
