/- What functions of the program return: each contract says so of one function, for every input at which its pure function yields. -/
import Derived.Test.YtfedmcehkpfciaaGreatPx0
import Derived.Test.YtfedmcehkpfciaaGreatPx8
namespace Go.Proofs.YtfedmcehkpfciaaGreat.P
open Go.RowKit Go.Proofs.YtfedmcehkpfciaaGreatW.PrintWords Go.Proofs.YtfedmcehkpfciaaGreatW.PrintLast Go.Proofs.YtfedmcehkpfciaaGreatW.PrintMore
attribute [local go_sem] max2_int min2_int max_two min_two max_three min_three max_four min_four   -- for this text's walks alone
set_option linter.unusedVariables false
set_option linter.unusedSimpArgs false

def gangsawref14_named.l0 : Nat → Int → ByteArray → Int → Int → List (S48) → Option (Int)
 | 0, _, _, _, _, _ => none
 | k + 1, x3, x187000, x187001, x187002, x187003 => if x3 < (x187003.length : Int) then (if 0 ≤ x3 then (if ((rd_T48 x187003 x3).f0) ≥ ((rd_T48 x187003 x3).f1) then (some 1) else (if ((rd_T48 x187003 x3).f2) = 1 then (gangsawref14_named.l0 k (wrap64 (x3 + 1)) x187000 x187001 x187002 x187003) else (if ((rd_T48 x187003 x3).f2) = 2 then (gangsawref14_named.l0 k (wrap64 (x3 + 1)) x187000 x187001 x187002 x187003) else (some 1)))) else (none)) else (some 0)
def gangsawref14_named.f (k : Nat) (a0_0 : ByteArray) (a0_1 : Int) (a0_2 : Int) (l0_3 : List (S48)) : Option (Int) := (gangsawref09_Name.f k a0_0).bind fun t187 => (if t187 = true then (if (l0_3.length : Int) > 64 then (some 7) else (gangsawref14_named.l0 k 0 a0_0 a0_1 a0_2 l0_3)) else (some 4))
theorem gangsawref14_named.mono_l : ∀ k, (∀ y0 y1 y2 y3 y4, LeO (gangsawref14_named.l0 k y0 y1 y2 y3 y4) (gangsawref14_named.l0 (k + 1) y0 y1 y2 y3 y4))
 | 0 => fun _ _ _ _ _ r h => by simp [gangsawref14_named.l0] at h
 | k + 1 => by
  have ih0 := gangsawref14_named.mono_l k
  ·intro y0 y1 y2 y3 y4
   unfold gangsawref14_named.l0
   repeat' first
   | (with_reducible exact ih0 _ _ _ _ _)
   | (with_reducible exact gangsawref09_Name.mono _ _)
   | (with_reducible exact LeO.refl _)
   | (with_reducible exact LeO.none _)
   | (with_reducible refine LeO.ite ?_ ?_)
   | (with_reducible refine LeO.bind ?_ (fun _ => ?_))
   | exact ih0 _ _ _ _ _
   | exact gangsawref09_Name.mono _ _
   | exact LeO.none _
   | refine LeO.ite ?_ ?_
   | refine LeO.bind ?_ (fun _ => ?_)
theorem gangsawref14_named.mono : ∀ a0 a1 a2 a3 k, LeO (gangsawref14_named.f k a0 a1 a2 a3) (gangsawref14_named.f (k + 1) a0 a1 a2 a3) := by
 intro a0 a1 a2 a3 k
 have ih0 := gangsawref14_named.mono_l k
 unfold gangsawref14_named.f
 repeat' first
   | (with_reducible exact ih0 _ _ _ _ _)
   | (with_reducible exact gangsawref09_Name.mono _ _)
   | (with_reducible exact LeO.refl _)
   | (with_reducible exact LeO.none _)
   | (with_reducible refine LeO.ite ?_ ?_)
   | (with_reducible refine LeO.bind ?_ (fun _ => ?_))
   | exact ih0 _ _ _ _ _
   | exact gangsawref09_Name.mono _ _
   | exact LeO.none _
   | refine LeO.ite ?_ ?_
   | refine LeO.bind ?_ (fun _ => ?_)
set_option maxHeartbeats 8000000 in
set_option maxRecDepth 100000 in
theorem gangsawref14_named.calls (k : Nat) (a0_0 : ByteArray) (a0_1 : Int) (a0_2 : Int) (A0_3 : Option Addr) (c0_3 : Nat) (l0_3 : List (S48)) (r : Int) (w : World) (hr0_3 : Kd.C k48 w A0_3 l0_3.length l0_3) (hc0_3 : l0_3.length ≤ c0_3) (h : gangsawref14_named.f k a0_0 a0_1 a0_2 l0_3 = some r) :
  Calls Tryz.prog 95 #[.agg #[.string a0_0, .int .i64 a0_1, .int .i64 a0_2, .slice A0_3 l0_3.length c0_3]] w fun e w' => e = .returned (.int .i64 r) ∧ Below w.heap.size w w' := by
 have hu33 := Tryz.underlying33
 have hu48 := Tryz.underlying48
 have HR0_3 := aK hr0_3
 have HC0_3 := aK hc0_3
 clear hr0_3 hc0_3
 have HB := aK (Below.refl w.heap.size w)
 have H : ((gangsawref09_Name.f k a0_0).bind fun t187 => (if t187 = true then (if (l0_3.length : Int) > 64 then (some 7) else (gangsawref14_named.l0 k 0 a0_0 a0_1 a0_2 l0_3)) else (some 4))) = some r := h
 clear h
 replace H := Option.bind_eq_some_iff.mp H
 obtain ⟨t187, A20, H⟩ := H
 replace H : (if t187 = true then (if (l0_3.length : Int) > 64 then (some 7) else (gangsawref14_named.l0 k 0 a0_0 a0_1 a0_2 l0_3)) else (some 4)) = some r := H
 have A2 := aK A20
 clear A20
 by_cases c3 : t187 = true
 rotate_left
 ·replace c3 := Bool.eq_false_iff.mpr c3
  subst c3
  have H1 : (some 4) = some r := by rw [if_neg (show ¬ (false = true) by decide)] at H; exact H
  clear H
  have H := H1
  clear H1
  obtain rfl := Option.some.inj H
  simp only [Option.some.injEq, Prod.mk.injEq] at H
  obtain ⟨rfl⟩ := H
  go_enter Tryz.func95, Tryz.ntmps95
  go_wp2_with (first | ((with_reducible refine gate_dst (N := 1) rfl ?_); refine box_event ?hg (N := 1) ?hd (cs := #[.string a0_0, .int .i64 a0_1, .int .i64 a0_2, .slice A0_3 l0_3.length c0_3]) (t := 33) ?hr ?_; (case hd => rfl); (case hg => rfl); (case hr => first | (go_simp; done) | (go_simp; rfl)); intro gb186 hg w31 hbox hb; have ⟨n0_, n2_⟩ := zV (w := w) hb hg (by repeat (first | (with_reducible first | exact HB.out | apply yA | apply yN | apply yD) | exact HB.out)); have n1_ := aK (hbox); have n3_ := n2_; clear HB; have HB := n0_; have BK186 := n1_; have GW186 := n2_; have GE186 := n3_; clear n0_ n1_ n2_ n3_; clear hb hbox hg; have hcz32_0 := zI BK186 0 rfl; have hcz32_1 := zI BK186 1 rfl; have hcz32_2 := zI BK186 2 rfl; have hcz32_3 := zI BK186 3 rfl; have hfz32_0 := zF BK186.out 0; have hfz32_1 := zF BK186.out 1; have hfz32_2 := zF BK186.out 2; have hfz32_3 := zF BK186.out 3) | ((with_reducible refine gate_callee (f := 120) rfl ?_); refine goesL_ (some 7) rfl rfl Tryz.func120 (by kernel_rfl) rfl #[.string a0_0] rfl (by (try simp only [List.map_toArray, List.map_cons, List.map_nil]); first | done | rfl | (simp only [List.length_drop, List.length_take]; rfl)) ?_; (with_reducible refine (gangsawref09_Name.calls k a0_0 false _ A2.out).mono ?_); rintro e w' ⟨rfl, ⟨nd, rfl⟩⟩; refine ⟨_, rfl, ?_⟩))
  go_ret
  exact ⟨rfl, by repeat (first | (with_reducible first | exact HB.out | apply yA | apply yN | apply yD | refine yS ?_ GE186.out) | exact HB.out)⟩
 subst c3
 have H1 : (if (l0_3.length : Int) > 64 then (some 7) else (gangsawref14_named.l0 k 0 a0_0 a0_1 a0_2 l0_3)) = some r := by rw [if_pos rfl] at H; exact H
 clear H
 have H := H1
 clear H1
 by_cases c4 : (l0_3.length : Int) > 64
 ·rw [if_pos c4] at H
  have c4b0 : decide (64 < (l0_3.length : Int)) = true := decide_eq_true c4
  have c4b1 : decide (64 < l0_3.length) = true := decide_eq_true (by omega)
  clear c4
  obtain rfl := Option.some.inj H
  simp only [Option.some.injEq, Prod.mk.injEq] at H
  obtain ⟨rfl⟩ := H
  go_enter Tryz.func95, Tryz.ntmps95
  go_wp2_with (first | ((with_reducible refine gate_dst (N := 1) rfl ?_); refine box_event ?hg (N := 1) ?hd (cs := #[.string a0_0, .int .i64 a0_1, .int .i64 a0_2, .slice A0_3 l0_3.length c0_3]) (t := 33) ?hr ?_; (case hd => rfl); (case hg => rfl); (case hr => first | (go_simp; done) | (go_simp; rfl)); intro gb186 hg w5 hbox hb; have ⟨n0_, n2_⟩ := zV (w := w) hb hg (by repeat (first | (with_reducible first | exact HB.out | apply yA | apply yN | apply yD) | exact HB.out)); have n1_ := aK (hbox); have n3_ := n2_; clear HB; have HB := n0_; have BK186 := n1_; have GW186 := n2_; have GE186 := n3_; clear n0_ n1_ n2_ n3_; clear hb hbox hg; have hcz6_0 := zI BK186 0 rfl; have hcz6_1 := zI BK186 1 rfl; have hcz6_2 := zI BK186 2 rfl; have hcz6_3 := zI BK186 3 rfl; have hfz6_0 := zF BK186.out 0; have hfz6_1 := zF BK186.out 1; have hfz6_2 := zF BK186.out 2; have hfz6_3 := zF BK186.out 3) | ((with_reducible refine gate_callee (f := 120) rfl ?_); refine goesL_ (some 7) rfl rfl Tryz.func120 (by kernel_rfl) rfl #[.string a0_0] rfl (by (try simp only [List.map_toArray, List.map_cons, List.map_nil]); first | done | rfl | (simp only [List.length_drop, List.length_take]; rfl)) ?_; (with_reducible refine (gangsawref09_Name.calls k a0_0 true _ A2.out).mono ?_); rintro e w' ⟨rfl, ⟨nd, rfl⟩⟩; refine ⟨_, rfl, ?_⟩))
  go_ret
  exact ⟨rfl, by repeat (first | (with_reducible first | exact HB.out | apply yA | apply yN | apply yD | refine yS ?_ GE186.out) | exact HB.out)⟩
 rw [if_neg c4] at H
 have c4b0 : decide (64 < (l0_3.length : Int)) = false := decide_eq_false c4
 have c4b1 : decide (64 < l0_3.length) = false := decide_eq_false (by omega)
 clear c4
 have H' := aK H
 clear H
 go_enter Tryz.func95, Tryz.ntmps95
 go_wp2_with (first | ((with_reducible refine gate_dst (N := 1) rfl ?_); refine box_event ?hg (N := 1) ?hd (cs := #[.string a0_0, .int .i64 a0_1, .int .i64 a0_2, .slice A0_3 l0_3.length c0_3]) (t := 33) ?hr ?_; (case hd => rfl); (case hg => rfl); (case hr => first | (go_simp; done) | (go_simp; rfl)); intro gb186 hg w7 hbox hb; have n0_ := aK (yT (HB.out) hb); have n1_ := aK (hbox); have n2_ := aK ((by rw [hg]; exact (yZ (HB.out)) : w.heap.size ≤ gb186)); have n3_ := n2_; clear HB; have HB := n0_; have BK186 := n1_; have GW186 := n2_; have GE186 := n3_; clear n0_ n1_ n2_ n3_; clear hb hbox hg; have hcz8_0 := zI BK186 0 rfl; have hcz8_1 := zI BK186 1 rfl; have hcz8_2 := zI BK186 2 rfl; have hcz8_3 := zI BK186 3 rfl; have hfz8_0 := zF BK186.out 0; have hfz8_1 := zF BK186.out 1; have hfz8_2 := zF BK186.out 2; have hfz8_3 := zF BK186.out 3) | ((with_reducible refine gate_callee (f := 120) rfl ?_); refine goesL_ (some 7) rfl rfl Tryz.func120 (by kernel_rfl) rfl #[.string a0_0] rfl (by (try simp only [List.map_toArray, List.map_cons, List.map_nil]); first | done | rfl | (simp only [List.length_drop, List.length_take]; rfl)) ?_; (with_reducible refine (gangsawref09_Name.calls k a0_0 true _ A2.out).mono ?_); rintro e w' ⟨rfl, ⟨nd, rfl⟩⟩; refine ⟨_, rfl, ?_⟩))
 go_loopg [3] k (fun kq v3 w' => ∃ (x3_1 : Int), v3 = .int .i64 x3_1 ∧ Aside0 (gangsawref14_named.l0 kq x3_1 a0_0 a0_1 a0_2 l0_3 = some r) ∧ Aside0 (kq ≤ k) ∧ Aside0 (w'.heap[gb186]? = some (.cells #[.string a0_0, .int .i64 a0_1, .int .i64 a0_2, (.slice A0_3 l0_3.length c0_3)] 33 (0, 0))) ∧ Aside0 (Below w.heap.size w w'))
 case atStart => exact ⟨(0), (by first | rfl | (simp; done) | (simp [*]; done)), H', ⟨Nat.le_refl _⟩, ⟨BK186.out⟩, ⟨by repeat (first | (with_reducible first | exact HB.out | apply yA | apply yN | apply yD | refine yS ?_ GE186.out) | exact HB.out)⟩⟩
 case round =>
  clear H'
  try clear c1
  try clear p2
  try clear c3
  try clear c4
  try clear c4b0
  try clear c4b1
  try clear hcz6_0
  try clear hcz6_1
  try clear hcz6_2
  try clear hcz6_3
  try clear hcz8_0
  try clear hcz8_1
  try clear hcz8_2
  try clear hcz8_3
  try clear hfz6_0
  try clear hfz6_1
  try clear hfz6_2
  try clear hfz6_3
  try clear hfz8_0
  try clear hfz8_1
  try clear hfz8_2
  try clear hfz8_3
  obtain ⟨x3_1, rfl, HA, HK1, BK186, HB⟩ := hrel
  cases gk with
  | zero => exact absurd HA.out (by simp [gangsawref14_named.l0])
  | succ k1 =>
   have H := HA.out
   clear HA
   simp only [gangsawref14_named.l0] at H
   by_cases c9 : x3_1 < (l0_3.length : Int)
   rotate_left
   ·rw [if_neg c9] at H
    have c9b0 : decide (x3_1 < (l0_3.length : Int)) = false := decide_eq_false c9
    clear c9
    obtain rfl := Option.some.inj H
    simp only [Option.some.injEq, Prod.mk.injEq] at H
    obtain ⟨rfl⟩ := H
    have hcz30_0 := zI BK186 0 rfl
    have hcz30_1 := zI BK186 1 rfl
    have hcz30_2 := zI BK186 2 rfl
    have hcz30_3 := zI BK186 3 rfl
    have hfz30_0 := zF BK186.out 0
    have hfz30_1 := zF BK186.out 1
    have hfz30_2 := zF BK186.out 2
    have hfz30_3 := zF BK186.out 3
    go_wp2
    go_ret
    exact ⟨rfl, HB.out⟩
   rw [if_pos c9] at H
   have c9b0 : decide (x3_1 < (l0_3.length : Int)) = true := decide_eq_true c9
   clear c9
   by_cases c10 : 0 ≤ x3_1
   rotate_left
   ·rw [if_neg c10] at H
    exact absurd H (by simp)
   rw [if_pos c10] at H
   have c10b0 : decide (0 ≤ x3_1) = true := decide_eq_true c10
   clear c10
   by_cases c11 : ((rd_T48 l0_3 x3_1).f0) ≥ ((rd_T48 l0_3 x3_1).f1)
   ·rw [if_pos c11] at H
    have c11b0 : decide (((rd_T48 l0_3 x3_1).f1) ≤ ((rd_T48 l0_3 x3_1).f0)) = true := decide_eq_true c11
    clear c11
    obtain rfl := Option.some.inj H
    simp only [Option.some.injEq, Prod.mk.injEq] at H
    obtain ⟨rfl⟩ := H
    have hcz12_0 := zI BK186 0 rfl
    have hcz12_1 := zI BK186 1 rfl
    have hcz12_2 := zI BK186 2 rfl
    have hcz12_3 := zI BK186 3 rfl
    have hfz12_0 := zF BK186.out 0
    have hfz12_1 := zF BK186.out 1
    have hfz12_2 := zF BK186.out 2
    have hfz12_3 := zF BK186.out 3
    have p188 : 0 ≤ (x3_1 : Int) := of_decide_eq_true (by assumption)
    have q188 : x3_1 < (l0_3.length : Int) := of_decide_eq_true (by assumption)
    obtain ⟨ad188, e188, hx188_0, hx188_1, hx188_2⟩ := at_T48 HR0_3.out x3_1 p188 q188
    cases e188
    replace hx188_0 := (HB.out.cell (World.block_lt_of_cell? w _ hx188_0)).trans hx188_0
    replace hx188_1 := (HB.out.cell (World.block_lt_of_cell? w _ hx188_1)).trans hx188_1
    replace hx188_2 := (HB.out.cell (World.block_lt_of_cell? w _ hx188_2)).trans hx188_2
    replace p188 := eq_true p188
    replace q188 := eq_true q188
    go_wp2_with (first | ((with_reducible refine gate_dst (N := 4) rfl ?_); refine box_event ?hg (N := 4) ?hd (cs := #[.int .i64 0, .int .i64 0, .int .i64 0]) (t := 48) ?hr ?_; (case hd => rfl); (case hg => rfl); (case hr => first | (go_simp; done) | (go_simp; rfl)); intro gb189 hg w13 hbox hb; have n0_ := aK (zB (g := gb186) (o := .cells #[.string a0_0, .int .i64 a0_1, .int .i64 a0_2, .slice (some ad188) l0_3.length c0_3] 33 (0, 0)) (BK186.out) hb); have ⟨n1_, n3_⟩ := zV (w := w) hb hg (by repeat (first | (with_reducible first | exact HB.out | apply yA | apply yN | apply yD | refine yS ?_ GE186.out) | exact HB.out)); have n2_ := aK (hbox); have n4_ := n3_; have n5_ := aK ((by rw [hg]; exact Nat.ne_of_lt (blk_lt (g := gb186) (o := .cells #[.string a0_0, .int .i64 a0_1, .int .i64 a0_2, .slice (some ad188) l0_3.length c0_3] 33 (0, 0)) (BK186.out)) : gb186 ≠ gb189)); have n6_ := aK ((by rw [hg]; exact Nat.ne_of_gt (blk_lt (g := gb186) (o := .cells #[.string a0_0, .int .i64 a0_1, .int .i64 a0_2, .slice (some ad188) l0_3.length c0_3] 33 (0, 0)) (BK186.out)) : gb189 ≠ gb186)); clear BK186; clear HB; have BK186 := n0_; have HB := n1_; have BK189 := n2_; have GW189 := n3_; have GE189 := n4_; have NB186_189 := n5_; have NB189_186 := n6_; clear n0_ n1_ n2_ n3_ n4_ n5_ n6_; clear hb hbox hg; have hnb14 := NB189_186.out; have hnc14 := NB186_189.out; have hcz15_0 := zI BK189 0 rfl; have hcz15_1 := zI BK189 1 rfl; have hcz15_2 := zI BK189 2 rfl; have hfz15_0 := zF BK189.out 0; have hfz15_1 := zF BK189.out 1; have hfz15_2 := zF BK189.out 2))
    go_ret
    exact ⟨rfl, by repeat (first | (with_reducible first | exact HB.out | apply yA | apply yN | apply yD | refine yS ?_ GE186.out | refine yS ?_ GE189.out) | exact HB.out)⟩
   rw [if_neg c11] at H
   have c11b0 : decide (((rd_T48 l0_3 x3_1).f1) ≤ ((rd_T48 l0_3 x3_1).f0)) = false := decide_eq_false c11
   clear c11
   by_cases c16 : ((rd_T48 l0_3 x3_1).f2) = 1
   ·rw [if_pos c16] at H
    have c16b0 : (((rd_T48 l0_3 x3_1).f2) == 1) = true := beq_iff_eq.mpr c16
    have c16b1 : (((rd_T48 l0_3 x3_1).f2) != 1) = false := bne_eq_false_iff_eq.mpr c16
    clear c16
    have H' := aK H
    clear H
    have hcz17_0 := zI BK186 0 rfl
    have hcz17_1 := zI BK186 1 rfl
    have hcz17_2 := zI BK186 2 rfl
    have hcz17_3 := zI BK186 3 rfl
    have hfz17_0 := zF BK186.out 0
    have hfz17_1 := zF BK186.out 1
    have hfz17_2 := zF BK186.out 2
    have hfz17_3 := zF BK186.out 3
    have p188 : 0 ≤ (x3_1 : Int) := of_decide_eq_true (by assumption)
    have q188 : x3_1 < (l0_3.length : Int) := of_decide_eq_true (by assumption)
    obtain ⟨ad188, e188, hx188_0, hx188_1, hx188_2⟩ := at_T48 HR0_3.out x3_1 p188 q188
    cases e188
    replace hx188_0 := (HB.out.cell (World.block_lt_of_cell? w _ hx188_0)).trans hx188_0
    replace hx188_1 := (HB.out.cell (World.block_lt_of_cell? w _ hx188_1)).trans hx188_1
    replace hx188_2 := (HB.out.cell (World.block_lt_of_cell? w _ hx188_2)).trans hx188_2
    replace p188 := eq_true p188
    replace q188 := eq_true q188
    go_wp2_with (first | ((with_reducible refine gate_dst (N := 4) rfl ?_); refine box_event ?hg (N := 4) ?hd (cs := #[.int .i64 0, .int .i64 0, .int .i64 0]) (t := 48) ?hr ?_; (case hd => rfl); (case hg => rfl); (case hr => first | (go_simp; done) | (go_simp; rfl)); intro gb189 hg w18 hbox hb; have n0_ := aK (zB (g := gb186) (o := .cells #[.string a0_0, .int .i64 a0_1, .int .i64 a0_2, .slice (some ad188) l0_3.length c0_3] 33 (0, 0)) (BK186.out) hb); have ⟨n1_, n3_⟩ := zV (w := w) hb hg (by repeat (first | (with_reducible first | exact HB.out | apply yA | apply yN | apply yD | refine yS ?_ GE186.out) | exact HB.out)); have n2_ := aK (hbox); have n4_ := n3_; have n5_ := aK ((by rw [hg]; exact Nat.ne_of_lt (blk_lt (g := gb186) (o := .cells #[.string a0_0, .int .i64 a0_1, .int .i64 a0_2, .slice (some ad188) l0_3.length c0_3] 33 (0, 0)) (BK186.out)) : gb186 ≠ gb189)); have n6_ := aK ((by rw [hg]; exact Nat.ne_of_gt (blk_lt (g := gb186) (o := .cells #[.string a0_0, .int .i64 a0_1, .int .i64 a0_2, .slice (some ad188) l0_3.length c0_3] 33 (0, 0)) (BK186.out)) : gb189 ≠ gb186)); clear BK186; clear HB; have BK186 := n0_; have HB := n1_; have BK189 := n2_; have GW189 := n3_; have GE189 := n4_; have NB186_189 := n5_; have NB189_186 := n6_; clear n0_ n1_ n2_ n3_ n4_ n5_ n6_; clear hb hbox hg; have hnb19 := NB189_186.out; have hnc19 := NB186_189.out; have hcz20_0 := zI BK189 0 rfl; have hcz20_1 := zI BK189 1 rfl; have hcz20_2 := zI BK189 2 rfl; have hfz20_0 := zF BK189.out 0; have hfz20_1 := zF BK189.out 1; have hfz20_2 := zF BK189.out 2))
    go_roundg k1
    case measure => have := HK1.out; omega
    case rel => exact ⟨(wrap64 (x3_1 + 1)), (by first | rfl | (simp; done) | (simp [*]; done)), H', ⟨by have := HK1.out; omega⟩, ⟨by refine blk_far ?_ NB186_189.out _; refine blk_far ?_ NB186_189.out _; refine blk_far ?_ NB186_189.out _; exact BK186.out⟩, ⟨by repeat (first | (with_reducible first | exact HB.out | apply yA | apply yN | apply yD | refine yS ?_ GE186.out | refine yS ?_ GE189.out) | exact HB.out)⟩⟩
   rw [if_neg c16] at H
   have c16b0 : (((rd_T48 l0_3 x3_1).f2) == 1) = false := beq_eq_false_iff_ne.mpr c16
   have c16b1 : (((rd_T48 l0_3 x3_1).f2) != 1) = true := bne_iff_ne.mpr c16
   by_cases c21 : ((rd_T48 l0_3 x3_1).f2) = 2
   rotate_left
   ·rw [if_neg c21] at H
    have c21b0 : (((rd_T48 l0_3 x3_1).f2) == 2) = false := beq_eq_false_iff_ne.mpr c21
    have c21b1 : (((rd_T48 l0_3 x3_1).f2) != 2) = true := bne_iff_ne.mpr c21
    obtain rfl := Option.some.inj H
    simp only [Option.some.injEq, Prod.mk.injEq] at H
    obtain ⟨rfl⟩ := H
    have hcz26_0 := zI BK186 0 rfl
    have hcz26_1 := zI BK186 1 rfl
    have hcz26_2 := zI BK186 2 rfl
    have hcz26_3 := zI BK186 3 rfl
    have hfz26_0 := zF BK186.out 0
    have hfz26_1 := zF BK186.out 1
    have hfz26_2 := zF BK186.out 2
    have hfz26_3 := zF BK186.out 3
    have p188 : 0 ≤ (x3_1 : Int) := of_decide_eq_true (by assumption)
    have q188 : x3_1 < (l0_3.length : Int) := of_decide_eq_true (by assumption)
    obtain ⟨ad188, e188, hx188_0, hx188_1, hx188_2⟩ := at_T48 HR0_3.out x3_1 p188 q188
    cases e188
    replace hx188_0 := (HB.out.cell (World.block_lt_of_cell? w _ hx188_0)).trans hx188_0
    replace hx188_1 := (HB.out.cell (World.block_lt_of_cell? w _ hx188_1)).trans hx188_1
    replace hx188_2 := (HB.out.cell (World.block_lt_of_cell? w _ hx188_2)).trans hx188_2
    replace p188 := eq_true p188
    replace q188 := eq_true q188
    go_wp2_with (first | ((with_reducible refine gate_dst (N := 4) rfl ?_); refine box_event ?hg (N := 4) ?hd (cs := #[.int .i64 0, .int .i64 0, .int .i64 0]) (t := 48) ?hr ?_; (case hd => rfl); (case hg => rfl); (case hr => first | (go_simp; done) | (go_simp; rfl)); intro gb189 hg w27 hbox hb; have n0_ := aK (zB (g := gb186) (o := .cells #[.string a0_0, .int .i64 a0_1, .int .i64 a0_2, .slice (some ad188) l0_3.length c0_3] 33 (0, 0)) (BK186.out) hb); have ⟨n1_, n3_⟩ := zV (w := w) hb hg (by repeat (first | (with_reducible first | exact HB.out | apply yA | apply yN | apply yD | refine yS ?_ GE186.out) | exact HB.out)); have n2_ := aK (hbox); have n4_ := n3_; have n5_ := aK ((by rw [hg]; exact Nat.ne_of_lt (blk_lt (g := gb186) (o := .cells #[.string a0_0, .int .i64 a0_1, .int .i64 a0_2, .slice (some ad188) l0_3.length c0_3] 33 (0, 0)) (BK186.out)) : gb186 ≠ gb189)); have n6_ := aK ((by rw [hg]; exact Nat.ne_of_gt (blk_lt (g := gb186) (o := .cells #[.string a0_0, .int .i64 a0_1, .int .i64 a0_2, .slice (some ad188) l0_3.length c0_3] 33 (0, 0)) (BK186.out)) : gb189 ≠ gb186)); clear BK186; clear HB; have BK186 := n0_; have HB := n1_; have BK189 := n2_; have GW189 := n3_; have GE189 := n4_; have NB186_189 := n5_; have NB189_186 := n6_; clear n0_ n1_ n2_ n3_ n4_ n5_ n6_; clear hb hbox hg; have hnb28 := NB189_186.out; have hnc28 := NB186_189.out; have hcz29_0 := zI BK189 0 rfl; have hcz29_1 := zI BK189 1 rfl; have hcz29_2 := zI BK189 2 rfl; have hfz29_0 := zF BK189.out 0; have hfz29_1 := zF BK189.out 1; have hfz29_2 := zF BK189.out 2))
    go_ret
    exact ⟨rfl, by repeat (first | (with_reducible first | exact HB.out | apply yA | apply yN | apply yD | refine yS ?_ GE186.out | refine yS ?_ GE189.out) | exact HB.out)⟩
   rw [if_pos c21] at H
   have c21b0 : (((rd_T48 l0_3 x3_1).f2) == 2) = true := beq_iff_eq.mpr c21
   have c21b1 : (((rd_T48 l0_3 x3_1).f2) != 2) = false := bne_eq_false_iff_eq.mpr c21
   clear c21
   have H' := aK H
   clear H
   have hcz22_0 := zI BK186 0 rfl
   have hcz22_1 := zI BK186 1 rfl
   have hcz22_2 := zI BK186 2 rfl
   have hcz22_3 := zI BK186 3 rfl
   have hfz22_0 := zF BK186.out 0
   have hfz22_1 := zF BK186.out 1
   have hfz22_2 := zF BK186.out 2
   have hfz22_3 := zF BK186.out 3
   have p188 : 0 ≤ (x3_1 : Int) := of_decide_eq_true (by assumption)
   have q188 : x3_1 < (l0_3.length : Int) := of_decide_eq_true (by assumption)
   obtain ⟨ad188, e188, hx188_0, hx188_1, hx188_2⟩ := at_T48 HR0_3.out x3_1 p188 q188
   cases e188
   replace hx188_0 := (HB.out.cell (World.block_lt_of_cell? w _ hx188_0)).trans hx188_0
   replace hx188_1 := (HB.out.cell (World.block_lt_of_cell? w _ hx188_1)).trans hx188_1
   replace hx188_2 := (HB.out.cell (World.block_lt_of_cell? w _ hx188_2)).trans hx188_2
   replace p188 := eq_true p188
   replace q188 := eq_true q188
   go_wp2_with (first | ((with_reducible refine gate_dst (N := 4) rfl ?_); refine box_event ?hg (N := 4) ?hd (cs := #[.int .i64 0, .int .i64 0, .int .i64 0]) (t := 48) ?hr ?_; (case hd => rfl); (case hg => rfl); (case hr => first | (go_simp; done) | (go_simp; rfl)); intro gb189 hg w23 hbox hb; have n0_ := aK (zB (g := gb186) (o := .cells #[.string a0_0, .int .i64 a0_1, .int .i64 a0_2, .slice (some ad188) l0_3.length c0_3] 33 (0, 0)) (BK186.out) hb); have ⟨n1_, n3_⟩ := zV (w := w) hb hg (by repeat (first | (with_reducible first | exact HB.out | apply yA | apply yN | apply yD | refine yS ?_ GE186.out) | exact HB.out)); have n2_ := aK (hbox); have n4_ := n3_; have n5_ := aK ((by rw [hg]; exact Nat.ne_of_lt (blk_lt (g := gb186) (o := .cells #[.string a0_0, .int .i64 a0_1, .int .i64 a0_2, .slice (some ad188) l0_3.length c0_3] 33 (0, 0)) (BK186.out)) : gb186 ≠ gb189)); have n6_ := aK ((by rw [hg]; exact Nat.ne_of_gt (blk_lt (g := gb186) (o := .cells #[.string a0_0, .int .i64 a0_1, .int .i64 a0_2, .slice (some ad188) l0_3.length c0_3] 33 (0, 0)) (BK186.out)) : gb189 ≠ gb186)); clear BK186; clear HB; have BK186 := n0_; have HB := n1_; have BK189 := n2_; have GW189 := n3_; have GE189 := n4_; have NB186_189 := n5_; have NB189_186 := n6_; clear n0_ n1_ n2_ n3_ n4_ n5_ n6_; clear hb hbox hg; have hnb24 := NB189_186.out; have hnc24 := NB186_189.out; have hcz25_0 := zI BK189 0 rfl; have hcz25_1 := zI BK189 1 rfl; have hcz25_2 := zI BK189 2 rfl; have hfz25_0 := zF BK189.out 0; have hfz25_1 := zF BK189.out 1; have hfz25_2 := zF BK189.out 2))
   go_roundg k1
   case measure => have := HK1.out; omega
   case rel => exact ⟨(wrap64 (x3_1 + 1)), (by first | rfl | (simp; done) | (simp [*]; done)), H', ⟨by have := HK1.out; omega⟩, ⟨by refine blk_far ?_ NB186_189.out _; refine blk_far ?_ NB186_189.out _; refine blk_far ?_ NB186_189.out _; exact BK186.out⟩, ⟨by repeat (first | (with_reducible first | exact HB.out | apply yA | apply yN | apply yD | refine yS ?_ GE186.out | refine yS ?_ GE189.out) | exact HB.out)⟩⟩

end Go.Proofs.YtfedmcehkpfciaaGreat.P
