/- What functions of the program return: each contract says so of one function, for every input at which its pure function yields. -/
import Derived.Test.YtfedmcehkpfciaaGreatPx0
import Derived.Test.YtfedmcehkpfciaaGreatPx8
namespace Go.Proofs.YtfedmcehkpfciaaGreat.P
open Go.RowKit Go.Proofs.YtfedmcehkpfciaaGreatW.PrintWords Go.Proofs.YtfedmcehkpfciaaGreatW.PrintLast Go.Proofs.YtfedmcehkpfciaaGreatW.PrintMore
attribute [local go_sem] max2_int min2_int max_two min_two max_three min_three max_four min_four   -- for this text's walks alone
set_option linter.unusedVariables false
set_option linter.unusedSimpArgs false

def gangsawref14_part.l0 : Nat → Int → ByteArray → Int → Int → List (S48) → Option (Bool)
 | 0, _, _, _, _, _ => none
 | k + 1, x5, x131000, x131001, x131002, x131003 => if x5 < (x131003.length : Int) then (if 0 ≤ x5 then (if ((rd_T48 x131003 x5).f0) ≥ ((rd_T48 x131003 x5).f1) then (some true) else (if ((rd_T48 x131003 x5).f2) = 1 then (gangsawref14_part.l0 k (wrap64 (x5 + 1)) x131000 x131001 x131002 x131003) else (if ((rd_T48 x131003 x5).f2) = 2 then (gangsawref14_part.l0 k (wrap64 (x5 + 1)) x131000 x131001 x131002 x131003) else (some true)))) else (none)) else (some false)
def gangsawref14_part.f (k : Nat) (a0_0 : ByteArray) (a0_1 : Int) (a0_2 : Int) (l0_3 : List (S48)) (a1 : Int) : Option (Bool) := if a1 = 4 then ((gangsawref09_Name.f k a0_0).bind fun t131 => (some (!t131))) else (if a1 = 7 then (some (decide ((l0_3.length : Int) > 64))) else (gangsawref14_part.l0 k 0 a0_0 a0_1 a0_2 l0_3))
theorem gangsawref14_part.mono_l : ∀ k, (∀ y0 y1 y2 y3 y4, LeO (gangsawref14_part.l0 k y0 y1 y2 y3 y4) (gangsawref14_part.l0 (k + 1) y0 y1 y2 y3 y4))
 | 0 => fun _ _ _ _ _ r h => by simp [gangsawref14_part.l0] at h
 | k + 1 => by
  have ih0 := gangsawref14_part.mono_l k
  ·intro y0 y1 y2 y3 y4
   unfold gangsawref14_part.l0
   repeat' first
   | (with_reducible exact ih0 _ _ _ _ _)
   | (with_reducible exact gangsawref09_Name.mono _ _)
   | (with_reducible refine contains3.mono2 (fun x_ => ?_))
   | (with_reducible refine contains33.mono2 (fun x_ => ?_))
   | (with_reducible refine contains48.mono2 (fun x_ => ?_))
   | (with_reducible refine contains9.mono2 (fun x_ => ?_))
   | (with_reducible refine index3.mono2 (fun x_ => ?_))
   | (with_reducible refine index33.mono2 (fun x_ => ?_))
   | (with_reducible refine index48.mono2 (fun x_ => ?_))
   | (with_reducible refine index9.mono2 (fun x_ => ?_))
   | (with_reducible exact LeO.refl _)
   | (with_reducible exact LeO.none _)
   | (with_reducible refine LeO.ite ?_ ?_)
   | (with_reducible refine LeO.bind ?_ (fun _ => ?_))
   | exact ih0 _ _ _ _ _
   | exact gangsawref09_Name.mono _ _
   | exact LeO.none _
   | refine LeO.ite ?_ ?_
   | refine LeO.bind ?_ (fun _ => ?_)
theorem gangsawref14_part.mono : ∀ a0 a1 a2 a3 a4 k, LeO (gangsawref14_part.f k a0 a1 a2 a3 a4) (gangsawref14_part.f (k + 1) a0 a1 a2 a3 a4) := by
 intro a0 a1 a2 a3 a4 k
 have ih0 := gangsawref14_part.mono_l k
 unfold gangsawref14_part.f
 repeat' first
   | (with_reducible exact ih0 _ _ _ _ _)
   | (with_reducible exact gangsawref09_Name.mono _ _)
   | (with_reducible refine contains3.mono2 (fun x_ => ?_))
   | (with_reducible refine contains33.mono2 (fun x_ => ?_))
   | (with_reducible refine contains48.mono2 (fun x_ => ?_))
   | (with_reducible refine contains9.mono2 (fun x_ => ?_))
   | (with_reducible refine index3.mono2 (fun x_ => ?_))
   | (with_reducible refine index33.mono2 (fun x_ => ?_))
   | (with_reducible refine index48.mono2 (fun x_ => ?_))
   | (with_reducible refine index9.mono2 (fun x_ => ?_))
   | (with_reducible exact LeO.refl _)
   | (with_reducible exact LeO.none _)
   | (with_reducible refine LeO.ite ?_ ?_)
   | (with_reducible refine LeO.bind ?_ (fun _ => ?_))
   | exact ih0 _ _ _ _ _
   | exact gangsawref09_Name.mono _ _
   | exact LeO.none _
   | refine LeO.ite ?_ ?_
   | refine LeO.bind ?_ (fun _ => ?_)
set_option maxHeartbeats 8000000 in
set_option maxRecDepth 100000 in
theorem gangsawref14_part.calls (k : Nat) (a0_0 : ByteArray) (a0_1 : Int) (a0_2 : Int) (A0_3 : Option Addr) (c0_3 : Nat) (l0_3 : List (S48)) (a1 : Int) (r : Bool) (w : World) (hr0_3 : Kd.C k48 w A0_3 l0_3.length l0_3) (hc0_3 : l0_3.length ≤ c0_3) (h : gangsawref14_part.f k a0_0 a0_1 a0_2 l0_3 a1 = some r) :
  Calls Tryz.prog 90 #[.agg #[.string a0_0, .int .i64 a0_1, .int .i64 a0_2, .slice A0_3 l0_3.length c0_3], .int .i64 a1] w fun e w' => e = .returned (.bool r) ∧ Below w.heap.size w w' := by
 have hu33 := Tryz.underlying33
 have hu48 := Tryz.underlying48
 have HR0_3 := aK hr0_3
 have HC0_3 := aK hc0_3
 clear hr0_3 hc0_3
 have HB := aK (Below.refl w.heap.size w)
 have H : (if a1 = 4 then ((gangsawref09_Name.f k a0_0).bind fun t131 => (some (!t131))) else (if a1 = 7 then (some (decide ((l0_3.length : Int) > 64))) else (gangsawref14_part.l0 k 0 a0_0 a0_1 a0_2 l0_3))) = some r := h
 clear h
 by_cases c3 : a1 = 4
 ·rw [if_pos c3] at H
  have c3b0 : (a1 == 4) = true := beq_iff_eq.mpr c3
  have c3b1 : (a1 != 4) = false := bne_eq_false_iff_eq.mpr c3
  clear c3
  replace H := Option.bind_eq_some_iff.mp H
  obtain ⟨t131, A40, H⟩ := H
  replace H : (some (!t131)) = some r := H
  have A4 := aK A40
  clear A40
  obtain rfl := Option.some.inj H
  simp only [Option.some.injEq, Prod.mk.injEq] at H
  obtain ⟨rfl⟩ := H
  go_enter Tryz.func90, Tryz.ntmps90
  go_wp2_with (first | ((with_reducible refine gate_dst (N := 2) rfl ?_); refine box_event ?hg (N := 2) ?hd (cs := #[.string a0_0, .int .i64 a0_1, .int .i64 a0_2, .slice A0_3 l0_3.length c0_3]) (t := 33) ?hr ?_; (case hd => rfl); (case hg => rfl); (case hr => first | (go_simp; done) | (go_simp; rfl)); intro gb130 hg w5 hbox hb; have ⟨n0_, n2_⟩ := zV (w := w) hb hg (by repeat (first | (with_reducible first | exact HB.out | apply yA | apply yN | apply yD) | exact HB.out)); have n1_ := aK (hbox); have n3_ := n2_; clear HB; have HB := n0_; have BK130 := n1_; have GW130 := n2_; have GE130 := n3_; clear n0_ n1_ n2_ n3_; clear hb hbox hg; have hcz6_0 := zI BK130 0 rfl; have hcz6_1 := zI BK130 1 rfl; have hcz6_2 := zI BK130 2 rfl; have hcz6_3 := zI BK130 3 rfl; have hfz6_0 := zF BK130.out 0; have hfz6_1 := zF BK130.out 1; have hfz6_2 := zF BK130.out 2; have hfz6_3 := zF BK130.out 3) | ((with_reducible refine gate_callee (f := 120) rfl ?_); refine goesL_ (some 12) rfl rfl Tryz.func120 (by kernel_rfl) rfl #[.string a0_0] rfl (by (try simp only [List.map_toArray, List.map_cons, List.map_nil]); first | done | rfl | (simp only [List.length_drop, List.length_take]; rfl)) ?_; (with_reducible refine (gangsawref09_Name.calls k a0_0 t131 _ A4.out).mono ?_); rintro e w' ⟨rfl, ⟨nd, rfl⟩⟩; refine ⟨_, rfl, ?_⟩))
  go_ret
  exact ⟨by first | rfl | (simp [errW_none, errW_some] <;> rfl) | (simp [*, errW_none, errW_some] <;> rfl), by repeat (first | (with_reducible first | exact HB.out | apply yA | apply yN | apply yD | refine yS ?_ GE130.out) | exact HB.out)⟩
 ·rw [if_neg c3] at H
  have c3b0 : (a1 == 4) = false := beq_eq_false_iff_ne.mpr c3
  have c3b1 : (a1 != 4) = true := bne_iff_ne.mpr c3
  by_cases c7 : a1 = 7
  ·rw [if_pos c7] at H
   have c7b0 : (a1 == 7) = true := beq_iff_eq.mpr c7
   have c7b1 : (a1 != 7) = false := bne_eq_false_iff_eq.mpr c7
   clear c7
   obtain rfl := Option.some.inj H
   simp only [Option.some.injEq, Prod.mk.injEq] at H
   obtain ⟨rfl⟩ := H
   go_enter Tryz.func90, Tryz.ntmps90
   go_wp2_with (first | ((with_reducible refine gate_dst (N := 2) rfl ?_); refine box_event ?hg (N := 2) ?hd (cs := #[.string a0_0, .int .i64 a0_1, .int .i64 a0_2, .slice A0_3 l0_3.length c0_3]) (t := 33) ?hr ?_; (case hd => rfl); (case hg => rfl); (case hr => first | (go_simp; done) | (go_simp; rfl)); intro gb130 hg w8 hbox hb; have ⟨n0_, n2_⟩ := zV (w := w) hb hg (by repeat (first | (with_reducible first | exact HB.out | apply yA | apply yN | apply yD) | exact HB.out)); have n1_ := aK (hbox); have n3_ := n2_; clear HB; have HB := n0_; have BK130 := n1_; have GW130 := n2_; have GE130 := n3_; clear n0_ n1_ n2_ n3_; clear hb hbox hg; have hcz9_0 := zI BK130 0 rfl; have hcz9_1 := zI BK130 1 rfl; have hcz9_2 := zI BK130 2 rfl; have hcz9_3 := zI BK130 3 rfl; have hfz9_0 := zF BK130.out 0; have hfz9_1 := zF BK130.out 1; have hfz9_2 := zF BK130.out 2; have hfz9_3 := zF BK130.out 3))
   go_ret
   exact ⟨by first | rfl | (simp [errW_none, errW_some] <;> rfl) | (simp [*, errW_none, errW_some] <;> rfl), by repeat (first | (with_reducible first | exact HB.out | apply yA | apply yN | apply yD | refine yS ?_ GE130.out) | exact HB.out)⟩
  ·rw [if_neg c7] at H
   have c7b0 : (a1 == 7) = false := beq_eq_false_iff_ne.mpr c7
   have c7b1 : (a1 != 7) = true := bne_iff_ne.mpr c7
   have H' := aK H
   clear H
   go_enter Tryz.func90, Tryz.ntmps90
   go_wp2_with (first | ((with_reducible refine gate_dst (N := 2) rfl ?_); refine box_event ?hg (N := 2) ?hd (cs := #[.string a0_0, .int .i64 a0_1, .int .i64 a0_2, .slice A0_3 l0_3.length c0_3]) (t := 33) ?hr ?_; (case hd => rfl); (case hg => rfl); (case hr => first | (go_simp; done) | (go_simp; rfl)); intro gb130 hg w10 hbox hb; have ⟨n0_, n2_⟩ := zV (w := w) hb hg (by repeat (first | (with_reducible first | exact HB.out | apply yA | apply yN | apply yD) | exact HB.out)); have n1_ := aK (hbox); have n3_ := n2_; clear HB; have HB := n0_; have BK130 := n1_; have GW130 := n2_; have GE130 := n3_; clear n0_ n1_ n2_ n3_; clear hb hbox hg))
   go_loopg [5] k (fun kq v5 w' => ∃ (x5_1 : Int), v5 = .int .i64 x5_1 ∧ Aside0 (gangsawref14_part.l0 kq x5_1 a0_0 a0_1 a0_2 l0_3 = some r) ∧ Aside0 (kq ≤ k) ∧ Aside0 (w'.heap[gb130]? = some (.cells #[.string a0_0, .int .i64 a0_1, .int .i64 a0_2, (.slice A0_3 l0_3.length c0_3)] 33 (0, 0))) ∧ Aside0 (Below w.heap.size w w'))
   case atStart => exact ⟨(0), (by first | rfl | (simp; done) | (simp [*]; done)), H', ⟨Nat.le_refl _⟩, ⟨by (with_reducible repeat (first | refine zN ?_ _ | refine zD ?_ | refine zA ?_ _)); exact BK130.out⟩, ⟨by repeat (first | (with_reducible first | exact HB.out | apply yA | apply yN | apply yD | refine yS ?_ GE130.out) | exact HB.out)⟩⟩
   case round =>
    clear H'
    try clear c1
    try clear p2
    try clear c3
    try clear c3b0
    try clear c3b1
    try clear c7
    try clear c7b0
    try clear c7b1
    try clear c9
    try clear hcz6_0
    try clear hcz6_1
    try clear hcz6_2
    try clear hcz6_3
    try clear hcz9_0
    try clear hcz9_1
    try clear hcz9_2
    try clear hcz9_3
    try clear hfz6_0
    try clear hfz6_1
    try clear hfz6_2
    try clear hfz6_3
    try clear hfz9_0
    try clear hfz9_1
    try clear hfz9_2
    try clear hfz9_3
    obtain ⟨x5_1, rfl, HA, HK1, BK130, HB⟩ := hrel
    cases gk with
    | zero => exact absurd HA.out (by simp [gangsawref14_part.l0])
    | succ k1 =>
     have H := HA.out
     clear HA
     simp only [gangsawref14_part.l0] at H
     by_cases c11 : x5_1 < (l0_3.length : Int)
     ·rw [if_pos c11] at H
      have c11b0 : decide (x5_1 < (l0_3.length : Int)) = true := decide_eq_true c11
      clear c11
      by_cases c12 : 0 ≤ x5_1
      ·rw [if_pos c12] at H
       have c12b0 : decide (0 ≤ x5_1) = true := decide_eq_true c12
       clear c12
       by_cases c13 : ((rd_T48 l0_3 x5_1).f0) ≥ ((rd_T48 l0_3 x5_1).f1)
       ·rw [if_pos c13] at H
        have c13b0 : decide (((rd_T48 l0_3 x5_1).f1) ≤ ((rd_T48 l0_3 x5_1).f0)) = true := decide_eq_true c13
        clear c13
        obtain rfl := Option.some.inj H
        simp only [Option.some.injEq, Prod.mk.injEq] at H
        obtain ⟨rfl⟩ := H
        have hcz14_0 := zI BK130 0 rfl
        have hcz14_1 := zI BK130 1 rfl
        have hcz14_2 := zI BK130 2 rfl
        have hcz14_3 := zI BK130 3 rfl
        have hfz14_0 := zF BK130.out 0
        have hfz14_1 := zF BK130.out 1
        have hfz14_2 := zF BK130.out 2
        have hfz14_3 := zF BK130.out 3
        have p132 : 0 ≤ (x5_1 : Int) := of_decide_eq_true (by first | (with_reducible assumption) | assumption)
        have q132 : x5_1 < (l0_3.length : Int) := of_decide_eq_true (by first | (with_reducible assumption) | assumption)
        obtain ⟨ad132, e132, hx132_0, hx132_1, hx132_2⟩ := at_T48 HR0_3.out x5_1 p132 q132
        cases e132
        replace hx132_0 := (HB.out.cell (World.block_lt_of_cell? w _ hx132_0)).trans hx132_0
        replace hx132_1 := (HB.out.cell (World.block_lt_of_cell? w _ hx132_1)).trans hx132_1
        replace hx132_2 := (HB.out.cell (World.block_lt_of_cell? w _ hx132_2)).trans hx132_2
        replace p132 := eq_true p132
        replace q132 := eq_true q132
        go_wp2_with (first | ((with_reducible refine gate_dst (N := 6) rfl ?_); refine box_event ?hg (N := 6) ?hd (cs := #[.int .i64 0, .int .i64 0, .int .i64 0]) (t := 48) ?hr ?_; (case hd => rfl); (case hg => rfl); (case hr => first | (go_simp; done) | (go_simp; rfl)); intro gb133 hg w15 hbox hb; have n0_ := zG BK130 hb (fun h => by (with_reducible repeat (first | refine zN ?_ _ | refine zD ?_ | refine zA ?_ _)); exact h); have ⟨n1_, n3_⟩ := zV (w := w) hb hg (by repeat (first | (with_reducible first | exact HB.out | apply yA | apply yN | apply yD | refine yS ?_ GE130.out) | exact HB.out)); have n2_ := aK (hbox); have n4_ := n3_; have n5_ := aK ((by rw [hg]; exact Nat.ne_of_lt (blk_lt (g := gb130) (o := .cells #[.string a0_0, .int .i64 a0_1, .int .i64 a0_2, .slice (some ad132) l0_3.length c0_3] 33 (0, 0)) (by (with_reducible repeat (first | refine zN ?_ _ | refine zD ?_ | refine zA ?_ _)); exact BK130.out)) : gb130 ≠ gb133)); have n6_ := aK ((by rw [hg]; exact Nat.ne_of_gt (blk_lt (g := gb130) (o := .cells #[.string a0_0, .int .i64 a0_1, .int .i64 a0_2, .slice (some ad132) l0_3.length c0_3] 33 (0, 0)) (by (with_reducible repeat (first | refine zN ?_ _ | refine zD ?_ | refine zA ?_ _)); exact BK130.out)) : gb133 ≠ gb130)); clear BK130; clear HB; have BK130 := n0_; have HB := n1_; have BK133 := n2_; have GW133 := n3_; have GE133 := n4_; have NB130_133 := n5_; have NB133_130 := n6_; clear n0_ n1_ n2_ n3_ n4_ n5_ n6_; clear hb hbox hg; have hnb16 := NB133_130.out; have hnc16 := NB130_133.out; have hcz17_0 := zI BK133 0 rfl; have hcz17_1 := zI BK133 1 rfl; have hcz17_2 := zI BK133 2 rfl; have hfz17_0 := zF BK133.out 0; have hfz17_1 := zF BK133.out 1; have hfz17_2 := zF BK133.out 2))
        go_ret
        exact ⟨by first | rfl | (simp [errW_none, errW_some] <;> rfl) | (simp [*, errW_none, errW_some] <;> rfl), by repeat (first | (with_reducible first | exact HB.out | apply yA | apply yN | apply yD | refine yS ?_ GE130.out | refine yS ?_ GE133.out) | exact HB.out)⟩
       ·rw [if_neg c13] at H
        have c13b0 : decide (((rd_T48 l0_3 x5_1).f1) ≤ ((rd_T48 l0_3 x5_1).f0)) = false := decide_eq_false c13
        clear c13
        by_cases c18 : ((rd_T48 l0_3 x5_1).f2) = 1
        ·rw [if_pos c18] at H
         have c18b0 : (((rd_T48 l0_3 x5_1).f2) == 1) = true := beq_iff_eq.mpr c18
         have c18b1 : (((rd_T48 l0_3 x5_1).f2) != 1) = false := bne_eq_false_iff_eq.mpr c18
         clear c18
         have H' := aK H
         clear H
         have hcz19_0 := zI BK130 0 rfl
         have hcz19_1 := zI BK130 1 rfl
         have hcz19_2 := zI BK130 2 rfl
         have hcz19_3 := zI BK130 3 rfl
         have hfz19_0 := zF BK130.out 0
         have hfz19_1 := zF BK130.out 1
         have hfz19_2 := zF BK130.out 2
         have hfz19_3 := zF BK130.out 3
         have p132 : 0 ≤ (x5_1 : Int) := of_decide_eq_true (by first | (with_reducible assumption) | assumption)
         have q132 : x5_1 < (l0_3.length : Int) := of_decide_eq_true (by first | (with_reducible assumption) | assumption)
         obtain ⟨ad132, e132, hx132_0, hx132_1, hx132_2⟩ := at_T48 HR0_3.out x5_1 p132 q132
         cases e132
         replace hx132_0 := (HB.out.cell (World.block_lt_of_cell? w _ hx132_0)).trans hx132_0
         replace hx132_1 := (HB.out.cell (World.block_lt_of_cell? w _ hx132_1)).trans hx132_1
         replace hx132_2 := (HB.out.cell (World.block_lt_of_cell? w _ hx132_2)).trans hx132_2
         replace p132 := eq_true p132
         replace q132 := eq_true q132
         go_wp2_with (first | ((with_reducible refine gate_dst (N := 6) rfl ?_); refine box_event ?hg (N := 6) ?hd (cs := #[.int .i64 0, .int .i64 0, .int .i64 0]) (t := 48) ?hr ?_; (case hd => rfl); (case hg => rfl); (case hr => first | (go_simp; done) | (go_simp; rfl)); intro gb133 hg w20 hbox hb; have n0_ := zG BK130 hb (fun h => by (with_reducible repeat (first | refine zN ?_ _ | refine zD ?_ | refine zA ?_ _)); exact h); have ⟨n1_, n3_⟩ := zV (w := w) hb hg (by repeat (first | (with_reducible first | exact HB.out | apply yA | apply yN | apply yD | refine yS ?_ GE130.out) | exact HB.out)); have n2_ := aK (hbox); have n4_ := n3_; have n5_ := aK ((by rw [hg]; exact Nat.ne_of_lt (blk_lt (g := gb130) (o := .cells #[.string a0_0, .int .i64 a0_1, .int .i64 a0_2, .slice (some ad132) l0_3.length c0_3] 33 (0, 0)) (by (with_reducible repeat (first | refine zN ?_ _ | refine zD ?_ | refine zA ?_ _)); exact BK130.out)) : gb130 ≠ gb133)); have n6_ := aK ((by rw [hg]; exact Nat.ne_of_gt (blk_lt (g := gb130) (o := .cells #[.string a0_0, .int .i64 a0_1, .int .i64 a0_2, .slice (some ad132) l0_3.length c0_3] 33 (0, 0)) (by (with_reducible repeat (first | refine zN ?_ _ | refine zD ?_ | refine zA ?_ _)); exact BK130.out)) : gb133 ≠ gb130)); clear BK130; clear HB; have BK130 := n0_; have HB := n1_; have BK133 := n2_; have GW133 := n3_; have GE133 := n4_; have NB130_133 := n5_; have NB133_130 := n6_; clear n0_ n1_ n2_ n3_ n4_ n5_ n6_; clear hb hbox hg; have hnb21 := NB133_130.out; have hnc21 := NB130_133.out; have hcz22_0 := zI BK133 0 rfl; have hcz22_1 := zI BK133 1 rfl; have hcz22_2 := zI BK133 2 rfl; have hfz22_0 := zF BK133.out 0; have hfz22_1 := zF BK133.out 1; have hfz22_2 := zF BK133.out 2))
         go_roundg k1
         case measure => have := HK1.out; omega
         case rel => exact ⟨(wrap64 (x5_1 + 1)), (by first | rfl | (simp; done) | (simp [*]; done)), H', ⟨by have := HK1.out; omega⟩, ⟨by (with_reducible repeat (first | refine zN ?_ _ | refine zD ?_ | refine zA ?_ _)); refine blk_far ?_ NB130_133.out _; (with_reducible repeat (first | refine zN ?_ _ | refine zD ?_ | refine zA ?_ _)); refine blk_far ?_ NB130_133.out _; (with_reducible repeat (first | refine zN ?_ _ | refine zD ?_ | refine zA ?_ _)); refine blk_far ?_ NB130_133.out _; (with_reducible repeat (first | refine zN ?_ _ | refine zD ?_ | refine zA ?_ _)); exact BK130.out⟩, ⟨by repeat (first | (with_reducible first | exact HB.out | apply yA | apply yN | apply yD | refine yS ?_ GE130.out | refine yS ?_ GE133.out) | exact HB.out)⟩⟩
        ·rw [if_neg c18] at H
         have c18b0 : (((rd_T48 l0_3 x5_1).f2) == 1) = false := beq_eq_false_iff_ne.mpr c18
         have c18b1 : (((rd_T48 l0_3 x5_1).f2) != 1) = true := bne_iff_ne.mpr c18
         by_cases c23 : ((rd_T48 l0_3 x5_1).f2) = 2
         ·rw [if_pos c23] at H
          have c23b0 : (((rd_T48 l0_3 x5_1).f2) == 2) = true := beq_iff_eq.mpr c23
          have c23b1 : (((rd_T48 l0_3 x5_1).f2) != 2) = false := bne_eq_false_iff_eq.mpr c23
          clear c23
          have H' := aK H
          clear H
          have hcz24_0 := zI BK130 0 rfl
          have hcz24_1 := zI BK130 1 rfl
          have hcz24_2 := zI BK130 2 rfl
          have hcz24_3 := zI BK130 3 rfl
          have hfz24_0 := zF BK130.out 0
          have hfz24_1 := zF BK130.out 1
          have hfz24_2 := zF BK130.out 2
          have hfz24_3 := zF BK130.out 3
          have p132 : 0 ≤ (x5_1 : Int) := of_decide_eq_true (by first | (with_reducible assumption) | assumption)
          have q132 : x5_1 < (l0_3.length : Int) := of_decide_eq_true (by first | (with_reducible assumption) | assumption)
          obtain ⟨ad132, e132, hx132_0, hx132_1, hx132_2⟩ := at_T48 HR0_3.out x5_1 p132 q132
          cases e132
          replace hx132_0 := (HB.out.cell (World.block_lt_of_cell? w _ hx132_0)).trans hx132_0
          replace hx132_1 := (HB.out.cell (World.block_lt_of_cell? w _ hx132_1)).trans hx132_1
          replace hx132_2 := (HB.out.cell (World.block_lt_of_cell? w _ hx132_2)).trans hx132_2
          replace p132 := eq_true p132
          replace q132 := eq_true q132
          go_wp2_with (first | ((with_reducible refine gate_dst (N := 6) rfl ?_); refine box_event ?hg (N := 6) ?hd (cs := #[.int .i64 0, .int .i64 0, .int .i64 0]) (t := 48) ?hr ?_; (case hd => rfl); (case hg => rfl); (case hr => first | (go_simp; done) | (go_simp; rfl)); intro gb133 hg w25 hbox hb; have n0_ := zG BK130 hb (fun h => by (with_reducible repeat (first | refine zN ?_ _ | refine zD ?_ | refine zA ?_ _)); exact h); have ⟨n1_, n3_⟩ := zV (w := w) hb hg (by repeat (first | (with_reducible first | exact HB.out | apply yA | apply yN | apply yD | refine yS ?_ GE130.out) | exact HB.out)); have n2_ := aK (hbox); have n4_ := n3_; have n5_ := aK ((by rw [hg]; exact Nat.ne_of_lt (blk_lt (g := gb130) (o := .cells #[.string a0_0, .int .i64 a0_1, .int .i64 a0_2, .slice (some ad132) l0_3.length c0_3] 33 (0, 0)) (by (with_reducible repeat (first | refine zN ?_ _ | refine zD ?_ | refine zA ?_ _)); exact BK130.out)) : gb130 ≠ gb133)); have n6_ := aK ((by rw [hg]; exact Nat.ne_of_gt (blk_lt (g := gb130) (o := .cells #[.string a0_0, .int .i64 a0_1, .int .i64 a0_2, .slice (some ad132) l0_3.length c0_3] 33 (0, 0)) (by (with_reducible repeat (first | refine zN ?_ _ | refine zD ?_ | refine zA ?_ _)); exact BK130.out)) : gb133 ≠ gb130)); clear BK130; clear HB; have BK130 := n0_; have HB := n1_; have BK133 := n2_; have GW133 := n3_; have GE133 := n4_; have NB130_133 := n5_; have NB133_130 := n6_; clear n0_ n1_ n2_ n3_ n4_ n5_ n6_; clear hb hbox hg; have hnb26 := NB133_130.out; have hnc26 := NB130_133.out; have hcz27_0 := zI BK133 0 rfl; have hcz27_1 := zI BK133 1 rfl; have hcz27_2 := zI BK133 2 rfl; have hfz27_0 := zF BK133.out 0; have hfz27_1 := zF BK133.out 1; have hfz27_2 := zF BK133.out 2))
          go_roundg k1
          case measure => have := HK1.out; omega
          case rel => exact ⟨(wrap64 (x5_1 + 1)), (by first | rfl | (simp; done) | (simp [*]; done)), H', ⟨by have := HK1.out; omega⟩, ⟨by (with_reducible repeat (first | refine zN ?_ _ | refine zD ?_ | refine zA ?_ _)); refine blk_far ?_ NB130_133.out _; (with_reducible repeat (first | refine zN ?_ _ | refine zD ?_ | refine zA ?_ _)); refine blk_far ?_ NB130_133.out _; (with_reducible repeat (first | refine zN ?_ _ | refine zD ?_ | refine zA ?_ _)); refine blk_far ?_ NB130_133.out _; (with_reducible repeat (first | refine zN ?_ _ | refine zD ?_ | refine zA ?_ _)); exact BK130.out⟩, ⟨by repeat (first | (with_reducible first | exact HB.out | apply yA | apply yN | apply yD | refine yS ?_ GE130.out | refine yS ?_ GE133.out) | exact HB.out)⟩⟩
         ·rw [if_neg c23] at H
          have c23b0 : (((rd_T48 l0_3 x5_1).f2) == 2) = false := beq_eq_false_iff_ne.mpr c23
          have c23b1 : (((rd_T48 l0_3 x5_1).f2) != 2) = true := bne_iff_ne.mpr c23
          obtain rfl := Option.some.inj H
          simp only [Option.some.injEq, Prod.mk.injEq] at H
          obtain ⟨rfl⟩ := H
          have hcz28_0 := zI BK130 0 rfl
          have hcz28_1 := zI BK130 1 rfl
          have hcz28_2 := zI BK130 2 rfl
          have hcz28_3 := zI BK130 3 rfl
          have hfz28_0 := zF BK130.out 0
          have hfz28_1 := zF BK130.out 1
          have hfz28_2 := zF BK130.out 2
          have hfz28_3 := zF BK130.out 3
          have p132 : 0 ≤ (x5_1 : Int) := of_decide_eq_true (by first | (with_reducible assumption) | assumption)
          have q132 : x5_1 < (l0_3.length : Int) := of_decide_eq_true (by first | (with_reducible assumption) | assumption)
          obtain ⟨ad132, e132, hx132_0, hx132_1, hx132_2⟩ := at_T48 HR0_3.out x5_1 p132 q132
          cases e132
          replace hx132_0 := (HB.out.cell (World.block_lt_of_cell? w _ hx132_0)).trans hx132_0
          replace hx132_1 := (HB.out.cell (World.block_lt_of_cell? w _ hx132_1)).trans hx132_1
          replace hx132_2 := (HB.out.cell (World.block_lt_of_cell? w _ hx132_2)).trans hx132_2
          replace p132 := eq_true p132
          replace q132 := eq_true q132
          go_wp2_with (first | ((with_reducible refine gate_dst (N := 6) rfl ?_); refine box_event ?hg (N := 6) ?hd (cs := #[.int .i64 0, .int .i64 0, .int .i64 0]) (t := 48) ?hr ?_; (case hd => rfl); (case hg => rfl); (case hr => first | (go_simp; done) | (go_simp; rfl)); intro gb133 hg w29 hbox hb; have n0_ := zG BK130 hb (fun h => by (with_reducible repeat (first | refine zN ?_ _ | refine zD ?_ | refine zA ?_ _)); exact h); have ⟨n1_, n3_⟩ := zV (w := w) hb hg (by repeat (first | (with_reducible first | exact HB.out | apply yA | apply yN | apply yD | refine yS ?_ GE130.out) | exact HB.out)); have n2_ := aK (hbox); have n4_ := n3_; have n5_ := aK ((by rw [hg]; exact Nat.ne_of_lt (blk_lt (g := gb130) (o := .cells #[.string a0_0, .int .i64 a0_1, .int .i64 a0_2, .slice (some ad132) l0_3.length c0_3] 33 (0, 0)) (by (with_reducible repeat (first | refine zN ?_ _ | refine zD ?_ | refine zA ?_ _)); exact BK130.out)) : gb130 ≠ gb133)); have n6_ := aK ((by rw [hg]; exact Nat.ne_of_gt (blk_lt (g := gb130) (o := .cells #[.string a0_0, .int .i64 a0_1, .int .i64 a0_2, .slice (some ad132) l0_3.length c0_3] 33 (0, 0)) (by (with_reducible repeat (first | refine zN ?_ _ | refine zD ?_ | refine zA ?_ _)); exact BK130.out)) : gb133 ≠ gb130)); clear BK130; clear HB; have BK130 := n0_; have HB := n1_; have BK133 := n2_; have GW133 := n3_; have GE133 := n4_; have NB130_133 := n5_; have NB133_130 := n6_; clear n0_ n1_ n2_ n3_ n4_ n5_ n6_; clear hb hbox hg; have hnb30 := NB133_130.out; have hnc30 := NB130_133.out; have hcz31_0 := zI BK133 0 rfl; have hcz31_1 := zI BK133 1 rfl; have hcz31_2 := zI BK133 2 rfl; have hfz31_0 := zF BK133.out 0; have hfz31_1 := zF BK133.out 1; have hfz31_2 := zF BK133.out 2))
          go_ret
          exact ⟨by first | rfl | (simp [errW_none, errW_some] <;> rfl) | (simp [*, errW_none, errW_some] <;> rfl), by repeat (first | (with_reducible first | exact HB.out | apply yA | apply yN | apply yD | refine yS ?_ GE130.out | refine yS ?_ GE133.out) | exact HB.out)⟩
      ·rw [if_neg c12] at H
       exact absurd H (by simp)
     ·rw [if_neg c11] at H
      have c11b0 : decide (x5_1 < (l0_3.length : Int)) = false := decide_eq_false c11
      clear c11
      obtain rfl := Option.some.inj H
      simp only [Option.some.injEq, Prod.mk.injEq] at H
      obtain ⟨rfl⟩ := H
      have hcz32_0 := zI BK130 0 rfl
      have hcz32_1 := zI BK130 1 rfl
      have hcz32_2 := zI BK130 2 rfl
      have hcz32_3 := zI BK130 3 rfl
      have hfz32_0 := zF BK130.out 0
      have hfz32_1 := zF BK130.out 1
      have hfz32_2 := zF BK130.out 2
      have hfz32_3 := zF BK130.out 3
      go_wp2
      go_ret
      exact ⟨by first | rfl | (simp [errW_none, errW_some] <;> rfl) | (simp [*, errW_none, errW_some] <;> rfl), by repeat (first | (with_reducible first | exact HB.out | apply yA | apply yN | apply yD | refine yS ?_ GE130.out) | exact HB.out)⟩

end Go.Proofs.YtfedmcehkpfciaaGreat.P
