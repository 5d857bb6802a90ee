/- What functions of the program return: each contract says so of one function, for every input at which its pure function yields. -/
import Derived.Test.YtpfggghpkdnppaaPx0
import Derived.Test.YtpfggghpkdnppaaPx11
import Derived.Test.YtpfggghpkdnppaaPx13
namespace Go.Proofs.Ytpfggghpkdnppaa.P
open Go.RowKit Go.Proofs.YtpfggghpkdnppaaW.PrintWords Go.Proofs.YtpfggghpkdnppaaW.PrintLast Go.Proofs.YtpfggghpkdnppaaW.PrintMore
attribute [local go_sem] max2_int min2_int max_two min_two max_three min_three max_four min_four   -- for this text's walks alone
set_option linter.unusedVariables false
set_option linter.unusedSimpArgs false

def gangsawref49_unnamed.l0 : Nat → Int → ByteArray → List (S36) → Int → Int → Int → Option (Bool)
 | 0, _, _, _, _, _, _ => none
 | k + 1, x3, x380000, x380001, x380002, x380003, x380004 => if x3 < (x380001.length : Int) then (if 0 ≤ x3 then ((gangsawref09_Name.f k ((rd_T36 x380001 x3).f0)).bind fun t381 => (if t381 = true then (gangsawref49_unnamed.l0 k (wrap64 (x3 + 1)) x380000 x380001 x380002 x380003 x380004) else (some true))) else (none)) else ((gangsawref09_Name.f k x380000).bind fun t382 => (some (!t382)))
def gangsawref49_unnamed.f (k : Nat) (a0_0 : ByteArray) (l0_1 : List (S36)) (a0_2 : Int) (a0_3 : Int) (a0_4 : Int) : Option (Bool) := gangsawref49_unnamed.l0 k 0 a0_0 l0_1 a0_2 a0_3 a0_4
set_option maxHeartbeats 8000000 in
set_option maxRecDepth 100000 in
theorem gangsawref49_unnamed.calls (k : Nat) (a0_0 : ByteArray) (A0_1 : Option Addr) (c0_1 : Nat) (l0_1 : List (S36)) (a0_2 : Int) (a0_3 : Int) (a0_4 : Int) (r : Bool) (w : World) (hr0_1 : Kd.C k36 w A0_1 l0_1.length l0_1) (hc0_1 : l0_1.length ≤ c0_1) (h : gangsawref49_unnamed.f k a0_0 l0_1 a0_2 a0_3 a0_4 = some r) :
  Calls Try.prog 48 #[.agg #[.string a0_0, .slice A0_1 l0_1.length c0_1, .int .i64 a0_2, .int .i64 a0_3, .int .i64 a0_4]] w fun e w' => e = .returned (.bool r) ∧ Below w.heap.size w w' := by
 have hu47 := Try.underlying47
 have HR0_1 := Aside0.mk hr0_1
 have HC0_1 := Aside0.mk hc0_1
 clear hr0_1 hc0_1
 have HB := Aside0.mk (Below.refl w.heap.size w)
 have H : (gangsawref49_unnamed.l0 k 0 a0_0 l0_1 a0_2 a0_3 a0_4) = some r := h
 clear h
 have H' := Aside0.mk H
 clear H
 go_enter Try.func48, Try.ntmps48
 go_wp2_with (first | ((with_reducible refine gate_dst (N := 1) rfl ?_); refine box_event ?hg (N := 1) ?hd (cs := #[.string a0_0, .slice A0_1 l0_1.length c0_1, .int .i64 a0_2, .int .i64 a0_3, .int .i64 a0_4]) (t := 47) ?hr ?_; (case hd => rfl); (case hg => rfl); (case hr => first | (go_simp; done) | (go_simp; rfl)); intro gb379 hg w2 hbox hb; have n0_ := Aside0.mk (below_step (by repeat (first | (with_reducible first | exact HB.out | apply below_alloc | apply pw_below_drewN | apply below_drew1) | exact HB.out)) hb); have n1_ := Aside0.mk (hbox); have n2_ := Aside0.mk ((by rw [hg]; exact (below_size (by repeat (first | (with_reducible first | exact HB.out | apply below_alloc | apply pw_below_drewN | apply below_drew1) | exact HB.out))) : w.heap.size ≤ gb379)); have n3_ := Aside0.mk ((by rw [hg]; exact (below_size (by repeat (first | (with_reducible first | exact HB.out | apply below_alloc | apply pw_below_drewN | apply below_drew1) | exact HB.out))) : w.heap.size ≤ gb379)); clear HB; have HB := n0_; have BK379 := n1_; have GW379 := n2_; have GE379 := n3_; clear n0_ n1_ n2_ n3_; clear hb hbox hg))
 go_loopg [3] k (fun kq v3 w' => ∃ (x3_1 : Int), v3 = .int .i64 x3_1 ∧ Aside0 (gangsawref49_unnamed.l0 kq x3_1 a0_0 l0_1 a0_2 a0_3 a0_4 = some r) ∧ Aside0 (kq ≤ k) ∧ Aside0 (w'.heap[gb379]? = some (.cells #[.string a0_0, (.slice A0_1 l0_1.length c0_1), .int .i64 a0_2, .int .i64 a0_3, .int .i64 a0_4] 47 (0, 0))) ∧ Aside0 (Below w.heap.size w w'))
 case atStart => exact ⟨(0), (by first | rfl | (simp; done) | (simp [*]; done)), H', ⟨Nat.le_refl _⟩, ⟨by (with_reducible repeat (first | refine blk_drewN ?_ _ | refine blk_drew ?_ | refine blk_alloc ?_ _)); exact BK379.out⟩, ⟨by repeat (first | (with_reducible first | exact HB.out | apply below_alloc | apply pw_below_drewN | apply below_drew1 | refine below_set ?_ GE379.out) | exact HB.out)⟩⟩
 case round =>
  clear H'
  try clear p2
  obtain ⟨x3_1, rfl, HA, HK1, BK379, HB⟩ := hrel
  cases gk with
  | zero => exact absurd HA.out (by simp [gangsawref49_unnamed.l0])
  | succ k1 =>
   have H := HA.out
   clear HA
   simp only [gangsawref49_unnamed.l0] at H
   by_cases c3 : x3_1 < (l0_1.length : Int)
   ·rw [if_pos c3] at H
    have c3b0 : decide (x3_1 < (l0_1.length : Int)) = true := decide_eq_true c3
    clear c3
    by_cases c4 : 0 ≤ x3_1
    ·rw [if_pos c4] at H
     have c4b0 : decide (0 ≤ x3_1) = true := decide_eq_true c4
     clear c4
     replace H := Option.bind_eq_some_iff.mp H
     obtain ⟨t381, A50, H⟩ := H
     replace H : (if t381 = true then (gangsawref49_unnamed.l0 k1 (wrap64 (x3_1 + 1)) a0_0 l0_1 a0_2 a0_3 a0_4) else (some true)) = some r := H
     have A5 := Aside0.mk A50
     clear A50
     by_cases c6 : t381 = true
     ·subst c6
      have H1 : (gangsawref49_unnamed.l0 k1 (wrap64 (x3_1 + 1)) a0_0 l0_1 a0_2 a0_3 a0_4) = some r := by rw [if_pos rfl] at H; exact H
      clear H
      have H := H1
      clear H1
      have H' := Aside0.mk H
      clear H
      have hcz7_0 : wr.cell? ⟨gb379, 0, none⟩ = some (.string a0_0) := (blk_cell BK379.out 0).trans rfl
      have hcz7_1 : wr.cell? ⟨gb379, 1, none⟩ = some (.slice A0_1 l0_1.length c0_1) := (blk_cell BK379.out 1).trans rfl
      have hcz7_2 : wr.cell? ⟨gb379, 2, none⟩ = some (.int .i64 a0_2) := (blk_cell BK379.out 2).trans rfl
      have hcz7_3 : wr.cell? ⟨gb379, 3, none⟩ = some (.int .i64 a0_3) := (blk_cell BK379.out 3).trans rfl
      have hcz7_4 : wr.cell? ⟨gb379, 4, none⟩ = some (.int .i64 a0_4) := (blk_cell BK379.out 4).trans rfl
      have hfz7_0 := blk_frozen BK379.out 0
      have hfz7_1 := blk_frozen BK379.out 1
      have hfz7_2 := blk_frozen BK379.out 2
      have hfz7_3 := blk_frozen BK379.out 3
      have hfz7_4 := blk_frozen BK379.out 4
      have p380 : 0 ≤ (x3_1 : Int) := of_decide_eq_true (by first | (with_reducible assumption) | assumption)
      have q380 : x3_1 < (l0_1.length : Int) := of_decide_eq_true (by first | (with_reducible assumption) | assumption)
      obtain ⟨ad380, e380, hx380_0, hx380_1, hx380_2⟩ := at_T36 HR0_1.out x3_1 p380 q380
      cases e380
      replace hx380_0 := (HB.out.cell (World.block_lt_of_cell? w _ hx380_0)).trans hx380_0
      replace hx380_1 := (HB.out.cell (World.block_lt_of_cell? w _ hx380_1)).trans hx380_1
      replace hx380_2 := (HB.out.cell (World.block_lt_of_cell? w _ hx380_2)).trans hx380_2
      replace p380 := eq_true p380
      replace q380 := eq_true q380
      go_wp2_with (first | ((with_reducible refine gate_callee (f := 30) rfl ?_); refine goesL_ (some 17) rfl rfl Try.func30 (by kernel_rfl) rfl #[.string ((rd_T36 l0_1 x3_1).f0)] rfl (by (try simp only [List.map_toArray, List.map_cons, List.map_nil]); first | done | rfl | (simp only [List.length_drop, List.length_take]; rfl)) ?_; (with_reducible refine (gangsawref09_Name.calls k1 ((rd_T36 l0_1 x3_1).f0) true _ A5.out).mono ?_); rintro e w' ⟨rfl, ⟨nd, rfl⟩⟩; refine ⟨_, rfl, ?_⟩))
      go_roundg k1
      case measure => have := HK1.out; omega
      case rel => exact ⟨(wrap64 (x3_1 + 1)), (by first | rfl | (simp; done) | (simp [*]; done)), H', ⟨by have := HK1.out; omega⟩, ⟨by (with_reducible repeat (first | refine blk_drewN ?_ _ | refine blk_drew ?_ | refine blk_alloc ?_ _)); exact BK379.out⟩, ⟨by repeat (first | (with_reducible first | exact HB.out | apply below_alloc | apply pw_below_drewN | apply below_drew1 | refine below_set ?_ GE379.out) | exact HB.out)⟩⟩
     ·replace c6 := Bool.eq_false_iff.mpr c6
      subst c6
      have H1 : (some true) = some r := by rw [if_neg (show ¬ (false = true) by decide)] at H; exact H
      clear H
      have H := H1
      clear H1
      obtain rfl := Option.some.inj H
      simp only [Option.some.injEq, Prod.mk.injEq] at H
      obtain ⟨rfl⟩ := H
      have hcz8_0 : wr.cell? ⟨gb379, 0, none⟩ = some (.string a0_0) := (blk_cell BK379.out 0).trans rfl
      have hcz8_1 : wr.cell? ⟨gb379, 1, none⟩ = some (.slice A0_1 l0_1.length c0_1) := (blk_cell BK379.out 1).trans rfl
      have hcz8_2 : wr.cell? ⟨gb379, 2, none⟩ = some (.int .i64 a0_2) := (blk_cell BK379.out 2).trans rfl
      have hcz8_3 : wr.cell? ⟨gb379, 3, none⟩ = some (.int .i64 a0_3) := (blk_cell BK379.out 3).trans rfl
      have hcz8_4 : wr.cell? ⟨gb379, 4, none⟩ = some (.int .i64 a0_4) := (blk_cell BK379.out 4).trans rfl
      have hfz8_0 := blk_frozen BK379.out 0
      have hfz8_1 := blk_frozen BK379.out 1
      have hfz8_2 := blk_frozen BK379.out 2
      have hfz8_3 := blk_frozen BK379.out 3
      have hfz8_4 := blk_frozen BK379.out 4
      have p380 : 0 ≤ (x3_1 : Int) := of_decide_eq_true (by first | (with_reducible assumption) | assumption)
      have q380 : x3_1 < (l0_1.length : Int) := of_decide_eq_true (by first | (with_reducible assumption) | assumption)
      obtain ⟨ad380, e380, hx380_0, hx380_1, hx380_2⟩ := at_T36 HR0_1.out x3_1 p380 q380
      cases e380
      replace hx380_0 := (HB.out.cell (World.block_lt_of_cell? w _ hx380_0)).trans hx380_0
      replace hx380_1 := (HB.out.cell (World.block_lt_of_cell? w _ hx380_1)).trans hx380_1
      replace hx380_2 := (HB.out.cell (World.block_lt_of_cell? w _ hx380_2)).trans hx380_2
      replace p380 := eq_true p380
      replace q380 := eq_true q380
      go_wp2_with (first | ((with_reducible refine gate_callee (f := 30) rfl ?_); refine goesL_ (some 17) rfl rfl Try.func30 (by kernel_rfl) rfl #[.string ((rd_T36 l0_1 x3_1).f0)] rfl (by (try simp only [List.map_toArray, List.map_cons, List.map_nil]); first | done | rfl | (simp only [List.length_drop, List.length_take]; rfl)) ?_; (with_reducible refine (gangsawref09_Name.calls k1 ((rd_T36 l0_1 x3_1).f0) false _ A5.out).mono ?_); rintro e w' ⟨rfl, ⟨nd, rfl⟩⟩; refine ⟨_, rfl, ?_⟩))
      go_ret
      exact ⟨by first | rfl | (simp [errW_none, errW_some] <;> rfl) | (simp [*, errW_none, errW_some] <;> rfl), by repeat (first | (with_reducible first | exact HB.out | apply below_alloc | apply pw_below_drewN | apply below_drew1 | refine below_set ?_ GE379.out) | exact HB.out)⟩
    ·rw [if_neg c4] at H
     exact absurd H (by simp)
   ·rw [if_neg c3] at H
    have c3b0 : decide (x3_1 < (l0_1.length : Int)) = false := decide_eq_false c3
    clear c3
    replace H := Option.bind_eq_some_iff.mp H
    obtain ⟨t382, A90, H⟩ := H
    replace H : (some (!t382)) = some r := H
    have A9 := Aside0.mk A90
    clear A90
    obtain rfl := Option.some.inj H
    simp only [Option.some.injEq, Prod.mk.injEq] at H
    obtain ⟨rfl⟩ := H
    have hcz10_0 : wr.cell? ⟨gb379, 0, none⟩ = some (.string a0_0) := (blk_cell BK379.out 0).trans rfl
    have hcz10_1 : wr.cell? ⟨gb379, 1, none⟩ = some (.slice A0_1 l0_1.length c0_1) := (blk_cell BK379.out 1).trans rfl
    have hcz10_2 : wr.cell? ⟨gb379, 2, none⟩ = some (.int .i64 a0_2) := (blk_cell BK379.out 2).trans rfl
    have hcz10_3 : wr.cell? ⟨gb379, 3, none⟩ = some (.int .i64 a0_3) := (blk_cell BK379.out 3).trans rfl
    have hcz10_4 : wr.cell? ⟨gb379, 4, none⟩ = some (.int .i64 a0_4) := (blk_cell BK379.out 4).trans rfl
    have hfz10_0 := blk_frozen BK379.out 0
    have hfz10_1 := blk_frozen BK379.out 1
    have hfz10_2 := blk_frozen BK379.out 2
    have hfz10_3 := blk_frozen BK379.out 3
    have hfz10_4 := blk_frozen BK379.out 4
    go_wp2_with (first | ((with_reducible refine gate_callee (f := 30) rfl ?_); refine goesL_ (some 21) rfl rfl Try.func30 (by kernel_rfl) rfl #[.string a0_0] rfl (by (try simp only [List.map_toArray, List.map_cons, List.map_nil]); first | done | rfl | (simp only [List.length_drop, List.length_take]; rfl)) ?_; (with_reducible refine (gangsawref09_Name.calls k1 a0_0 t382 _ A9.out).mono ?_); rintro e w' ⟨rfl, ⟨nd, rfl⟩⟩; refine ⟨_, rfl, ?_⟩))
    go_ret
    exact ⟨by first | rfl | (simp [errW_none, errW_some] <;> rfl) | (simp [*, errW_none, errW_some] <;> rfl), by repeat (first | (with_reducible first | exact HB.out | apply below_alloc | apply pw_below_drewN | apply below_drew1 | refine below_set ?_ GE379.out) | exact HB.out)⟩

def gangsawref49_job.l0 : Nat → Int → ByteArray → List (S36) → Int → Int → Int → Option (Bool)
 | 0, _, _, _, _, _, _ => none
 | k + 1, x3, x384000, x384001, x384002, x384003, x384004 => if x3 < (x384001.length : Int) then (if 0 ≤ x3 then ((gangsawref49_step.f ((rd_T36 x384001 x3).f0) ((rd_T36 x384001 x3).f1) ((rd_T36 x384001 x3).f2)).bind fun t385 => (if t385 = true then (gangsawref49_job.l0 k (wrap64 (x3 + 1)) x384000 x384001 x384002 x384003 x384004) else (some false))) else (none)) else ((gangsawref49_in.f x384002 0 10000000).bind fun t386 => (if t386 = true then ((gangsawref49_in.f x384003 0 10000000).bind fun t387 => (if t387 = true then ((gangsawref49_in.f x384004 0 100).bind fun t388 => (some t388)) else (some false))) else (some false)))
def gangsawref49_job.f (k : Nat) (a0_0 : ByteArray) (l0_1 : List (S36)) (a0_2 : Int) (a0_3 : Int) (a0_4 : Int) : Option (Bool) := gangsawref49_job.l0 k 0 a0_0 l0_1 a0_2 a0_3 a0_4
set_option maxHeartbeats 8000000 in
set_option maxRecDepth 100000 in
theorem gangsawref49_job.calls (k : Nat) (a0_0 : ByteArray) (A0_1 : Option Addr) (c0_1 : Nat) (l0_1 : List (S36)) (a0_2 : Int) (a0_3 : Int) (a0_4 : Int) (r : Bool) (w : World) (hr0_1 : Kd.C k36 w A0_1 l0_1.length l0_1) (hc0_1 : l0_1.length ≤ c0_1) (h : gangsawref49_job.f k a0_0 l0_1 a0_2 a0_3 a0_4 = some r) :
  Calls Try.prog 49 #[.agg #[.string a0_0, .slice A0_1 l0_1.length c0_1, .int .i64 a0_2, .int .i64 a0_3, .int .i64 a0_4]] w fun e w' => e = .returned (.bool r) ∧ Below w.heap.size w w' := by
 have hu47 := Try.underlying47
 have hu36 := Try.underlying36
 have HR0_1 := Aside0.mk hr0_1
 have HC0_1 := Aside0.mk hc0_1
 clear hr0_1 hc0_1
 have HB := Aside0.mk (Below.refl w.heap.size w)
 have H : (gangsawref49_job.l0 k 0 a0_0 l0_1 a0_2 a0_3 a0_4) = some r := h
 clear h
 have H' := Aside0.mk H
 clear H
 go_enter Try.func49, Try.ntmps49
 go_wp2_with (first | ((with_reducible refine gate_dst (N := 1) rfl ?_); refine box_event ?hg (N := 1) ?hd (cs := #[.string a0_0, .slice A0_1 l0_1.length c0_1, .int .i64 a0_2, .int .i64 a0_3, .int .i64 a0_4]) (t := 47) ?hr ?_; (case hd => rfl); (case hg => rfl); (case hr => first | (go_simp; done) | (go_simp; rfl)); intro gb383 hg w2 hbox hb; have n0_ := Aside0.mk (below_step (by repeat (first | (with_reducible first | exact HB.out | apply below_alloc | apply pw_below_drewN | apply below_drew1) | exact HB.out)) hb); have n1_ := Aside0.mk (hbox); have n2_ := Aside0.mk ((by rw [hg]; exact (below_size (by repeat (first | (with_reducible first | exact HB.out | apply below_alloc | apply pw_below_drewN | apply below_drew1) | exact HB.out))) : w.heap.size ≤ gb383)); have n3_ := Aside0.mk ((by rw [hg]; exact (below_size (by repeat (first | (with_reducible first | exact HB.out | apply below_alloc | apply pw_below_drewN | apply below_drew1) | exact HB.out))) : w.heap.size ≤ gb383)); clear HB; have HB := n0_; have BK383 := n1_; have GW383 := n2_; have GE383 := n3_; clear n0_ n1_ n2_ n3_; clear hb hbox hg))
 go_loopg [3] k (fun kq v3 w' => ∃ (x3_1 : Int), v3 = .int .i64 x3_1 ∧ Aside0 (gangsawref49_job.l0 kq x3_1 a0_0 l0_1 a0_2 a0_3 a0_4 = some r) ∧ Aside0 (kq ≤ k) ∧ Aside0 (w'.heap[gb383]? = some (.cells #[.string a0_0, (.slice A0_1 l0_1.length c0_1), .int .i64 a0_2, .int .i64 a0_3, .int .i64 a0_4] 47 (0, 0))) ∧ Aside0 (Below w.heap.size w w'))
 case atStart => exact ⟨(0), (by first | rfl | (simp; done) | (simp [*]; done)), H', ⟨Nat.le_refl _⟩, ⟨by (with_reducible repeat (first | refine blk_drewN ?_ _ | refine blk_drew ?_ | refine blk_alloc ?_ _)); exact BK383.out⟩, ⟨by repeat (first | (with_reducible first | exact HB.out | apply below_alloc | apply pw_below_drewN | apply below_drew1 | refine below_set ?_ GE383.out) | exact HB.out)⟩⟩
 case round =>
  clear H'
  try clear p2
  obtain ⟨x3_1, rfl, HA, HK1, BK383, HB⟩ := hrel
  cases gk with
  | zero => exact absurd HA.out (by simp [gangsawref49_job.l0])
  | succ k1 =>
   have H := HA.out
   clear HA
   simp only [gangsawref49_job.l0] at H
   by_cases c3 : x3_1 < (l0_1.length : Int)
   ·rw [if_pos c3] at H
    have c3b0 : decide (x3_1 < (l0_1.length : Int)) = true := decide_eq_true c3
    clear c3
    by_cases c4 : 0 ≤ x3_1
    ·rw [if_pos c4] at H
     have c4b0 : decide (0 ≤ x3_1) = true := decide_eq_true c4
     clear c4
     replace H := Option.bind_eq_some_iff.mp H
     obtain ⟨t385, A50, H⟩ := H
     replace H : (if t385 = true then (gangsawref49_job.l0 k1 (wrap64 (x3_1 + 1)) a0_0 l0_1 a0_2 a0_3 a0_4) else (some false)) = some r := H
     have A5 := Aside0.mk A50
     clear A50
     by_cases c6 : t385 = true
     ·subst c6
      have H1 : (gangsawref49_job.l0 k1 (wrap64 (x3_1 + 1)) a0_0 l0_1 a0_2 a0_3 a0_4) = some r := by rw [if_pos rfl] at H; exact H
      clear H
      have H := H1
      clear H1
      have H' := Aside0.mk H
      clear H
      have hcz7_0 : wr.cell? ⟨gb383, 0, none⟩ = some (.string a0_0) := (blk_cell BK383.out 0).trans rfl
      have hcz7_1 : wr.cell? ⟨gb383, 1, none⟩ = some (.slice A0_1 l0_1.length c0_1) := (blk_cell BK383.out 1).trans rfl
      have hcz7_2 : wr.cell? ⟨gb383, 2, none⟩ = some (.int .i64 a0_2) := (blk_cell BK383.out 2).trans rfl
      have hcz7_3 : wr.cell? ⟨gb383, 3, none⟩ = some (.int .i64 a0_3) := (blk_cell BK383.out 3).trans rfl
      have hcz7_4 : wr.cell? ⟨gb383, 4, none⟩ = some (.int .i64 a0_4) := (blk_cell BK383.out 4).trans rfl
      have hfz7_0 := blk_frozen BK383.out 0
      have hfz7_1 := blk_frozen BK383.out 1
      have hfz7_2 := blk_frozen BK383.out 2
      have hfz7_3 := blk_frozen BK383.out 3
      have hfz7_4 := blk_frozen BK383.out 4
      have p384 : 0 ≤ (x3_1 : Int) := of_decide_eq_true (by first | (with_reducible assumption) | assumption)
      have q384 : x3_1 < (l0_1.length : Int) := of_decide_eq_true (by first | (with_reducible assumption) | assumption)
      obtain ⟨ad384, e384, hx384_0, hx384_1, hx384_2⟩ := at_T36 HR0_1.out x3_1 p384 q384
      cases e384
      replace hx384_0 := (HB.out.cell (World.block_lt_of_cell? w _ hx384_0)).trans hx384_0
      replace hx384_1 := (HB.out.cell (World.block_lt_of_cell? w _ hx384_1)).trans hx384_1
      replace hx384_2 := (HB.out.cell (World.block_lt_of_cell? w _ hx384_2)).trans hx384_2
      replace p384 := eq_true p384
      replace q384 := eq_true q384
      go_wp2_with (first | ((with_reducible refine gate_callee (f := 35) rfl ?_); refine goesL_ (some 16) rfl rfl Try.func35 (by kernel_rfl) rfl #[.agg #[.string ((rd_T36 l0_1 x3_1).f0), .int .i64 ((rd_T36 l0_1 x3_1).f1), .int .i64 ((rd_T36 l0_1 x3_1).f2)]] rfl (by (try simp only [List.map_toArray, List.map_cons, List.map_nil]); first | done | rfl | (simp only [List.length_drop, List.length_take]; rfl)) ?_; (with_reducible refine (gangsawref49_step.calls ((rd_T36 l0_1 x3_1).f0) ((rd_T36 l0_1 x3_1).f1) ((rd_T36 l0_1 x3_1).f2) true _ A5.out).mono ?_); rintro e w8 ⟨rfl, hb⟩; refine ⟨_, rfl, ?_⟩; have n0_ := Aside0.mk (blk_below (g := gb383) (o := .cells #[.string a0_0, .slice (some ad384) l0_1.length c0_1, .int .i64 a0_2, .int .i64 a0_3, .int .i64 a0_4] 47 (0, 0)) (by (with_reducible repeat (first | refine blk_drewN ?_ _ | refine blk_drew ?_ | refine blk_alloc ?_ _)); exact BK383.out) hb); have n1_ := Aside0.mk (below_step (by repeat (first | (with_reducible first | exact HB.out | apply below_alloc | apply pw_below_drewN | apply below_drew1 | refine below_set ?_ GE383.out) | exact HB.out)) hb); clear BK383; clear HB; have BK383 := n0_; have HB := n1_; clear n0_ n1_; (try clear hb); (try clear hb2); (try clear hk); (try clear hi)))
      go_roundg k1
      case measure => have := HK1.out; omega
      case rel => exact ⟨(wrap64 (x3_1 + 1)), (by first | rfl | (simp; done) | (simp [*]; done)), H', ⟨by have := HK1.out; omega⟩, ⟨by (with_reducible repeat (first | refine blk_drewN ?_ _ | refine blk_drew ?_ | refine blk_alloc ?_ _)); exact BK383.out⟩, ⟨by repeat (first | (with_reducible first | exact HB.out | apply below_alloc | apply pw_below_drewN | apply below_drew1 | refine below_set ?_ GE383.out) | exact HB.out)⟩⟩
     ·replace c6 := Bool.eq_false_iff.mpr c6
      subst c6
      have H1 : (some false) = some r := by rw [if_neg (show ¬ (false = true) by decide)] at H; exact H
      clear H
      have H := H1
      clear H1
      obtain rfl := Option.some.inj H
      simp only [Option.some.injEq, Prod.mk.injEq] at H
      obtain ⟨rfl⟩ := H
      have hcz9_0 : wr.cell? ⟨gb383, 0, none⟩ = some (.string a0_0) := (blk_cell BK383.out 0).trans rfl
      have hcz9_1 : wr.cell? ⟨gb383, 1, none⟩ = some (.slice A0_1 l0_1.length c0_1) := (blk_cell BK383.out 1).trans rfl
      have hcz9_2 : wr.cell? ⟨gb383, 2, none⟩ = some (.int .i64 a0_2) := (blk_cell BK383.out 2).trans rfl
      have hcz9_3 : wr.cell? ⟨gb383, 3, none⟩ = some (.int .i64 a0_3) := (blk_cell BK383.out 3).trans rfl
      have hcz9_4 : wr.cell? ⟨gb383, 4, none⟩ = some (.int .i64 a0_4) := (blk_cell BK383.out 4).trans rfl
      have hfz9_0 := blk_frozen BK383.out 0
      have hfz9_1 := blk_frozen BK383.out 1
      have hfz9_2 := blk_frozen BK383.out 2
      have hfz9_3 := blk_frozen BK383.out 3
      have hfz9_4 := blk_frozen BK383.out 4
      have p384 : 0 ≤ (x3_1 : Int) := of_decide_eq_true (by first | (with_reducible assumption) | assumption)
      have q384 : x3_1 < (l0_1.length : Int) := of_decide_eq_true (by first | (with_reducible assumption) | assumption)
      obtain ⟨ad384, e384, hx384_0, hx384_1, hx384_2⟩ := at_T36 HR0_1.out x3_1 p384 q384
      cases e384
      replace hx384_0 := (HB.out.cell (World.block_lt_of_cell? w _ hx384_0)).trans hx384_0
      replace hx384_1 := (HB.out.cell (World.block_lt_of_cell? w _ hx384_1)).trans hx384_1
      replace hx384_2 := (HB.out.cell (World.block_lt_of_cell? w _ hx384_2)).trans hx384_2
      replace p384 := eq_true p384
      replace q384 := eq_true q384
      go_wp2_with (first | ((with_reducible refine gate_callee (f := 35) rfl ?_); refine goesL_ (some 16) rfl rfl Try.func35 (by kernel_rfl) rfl #[.agg #[.string ((rd_T36 l0_1 x3_1).f0), .int .i64 ((rd_T36 l0_1 x3_1).f1), .int .i64 ((rd_T36 l0_1 x3_1).f2)]] rfl (by (try simp only [List.map_toArray, List.map_cons, List.map_nil]); first | done | rfl | (simp only [List.length_drop, List.length_take]; rfl)) ?_; (with_reducible refine (gangsawref49_step.calls ((rd_T36 l0_1 x3_1).f0) ((rd_T36 l0_1 x3_1).f1) ((rd_T36 l0_1 x3_1).f2) false _ A5.out).mono ?_); rintro e w10 ⟨rfl, hb⟩; refine ⟨_, rfl, ?_⟩; have n0_ := Aside0.mk (blk_below (g := gb383) (o := .cells #[.string a0_0, .slice (some ad384) l0_1.length c0_1, .int .i64 a0_2, .int .i64 a0_3, .int .i64 a0_4] 47 (0, 0)) (by (with_reducible repeat (first | refine blk_drewN ?_ _ | refine blk_drew ?_ | refine blk_alloc ?_ _)); exact BK383.out) hb); have n1_ := Aside0.mk (below_step (by repeat (first | (with_reducible first | exact HB.out | apply below_alloc | apply pw_below_drewN | apply below_drew1 | refine below_set ?_ GE383.out) | exact HB.out)) hb); clear BK383; clear HB; have BK383 := n0_; have HB := n1_; clear n0_ n1_; (try clear hb); (try clear hb2); (try clear hk); (try clear hi)))
      go_ret
      exact ⟨by first | rfl | (simp [errW_none, errW_some] <;> rfl) | (simp [*, errW_none, errW_some] <;> rfl), by repeat (first | (with_reducible first | exact HB.out | apply below_alloc | apply pw_below_drewN | apply below_drew1 | refine below_set ?_ GE383.out) | exact HB.out)⟩
    ·rw [if_neg c4] at H
     exact absurd H (by simp)
   ·rw [if_neg c3] at H
    have c3b0 : decide (x3_1 < (l0_1.length : Int)) = false := decide_eq_false c3
    clear c3
    replace H := Option.bind_eq_some_iff.mp H
    obtain ⟨t386, A110, H⟩ := H
    replace H : (if t386 = true then ((gangsawref49_in.f a0_3 0 10000000).bind fun t387 => (if t387 = true then ((gangsawref49_in.f a0_4 0 100).bind fun t388 => (some t388)) else (some false))) else (some false)) = some r := H
    have A11 := Aside0.mk A110
    clear A110
    by_cases c12 : t386 = true
    ·subst c12
     have H1 : ((gangsawref49_in.f a0_3 0 10000000).bind fun t387 => (if t387 = true then ((gangsawref49_in.f a0_4 0 100).bind fun t388 => (some t388)) else (some false))) = some r := by rw [if_pos rfl] at H; exact H
     clear H
     have H := H1
     clear H1
     replace H := Option.bind_eq_some_iff.mp H
     obtain ⟨t387, A130, H⟩ := H
     replace H : (if t387 = true then ((gangsawref49_in.f a0_4 0 100).bind fun t388 => (some t388)) else (some false)) = some r := H
     have A13 := Aside0.mk A130
     clear A130
     by_cases c14 : t387 = true
     ·subst c14
      have H1 : ((gangsawref49_in.f a0_4 0 100).bind fun t388 => (some t388)) = some r := by rw [if_pos rfl] at H; exact H
      clear H
      have H := H1
      clear H1
      replace H := Option.bind_eq_some_iff.mp H
      obtain ⟨t388, A150, H⟩ := H
      replace H : (some t388) = some r := H
      have A15 := Aside0.mk A150
      clear A150
      obtain rfl := Option.some.inj H
      simp only [Option.some.injEq, Prod.mk.injEq] at H
      obtain ⟨rfl⟩ := H
      have hcz16_0 : wr.cell? ⟨gb383, 0, none⟩ = some (.string a0_0) := (blk_cell BK383.out 0).trans rfl
      have hcz16_1 : wr.cell? ⟨gb383, 1, none⟩ = some (.slice A0_1 l0_1.length c0_1) := (blk_cell BK383.out 1).trans rfl
      have hcz16_2 : wr.cell? ⟨gb383, 2, none⟩ = some (.int .i64 a0_2) := (blk_cell BK383.out 2).trans rfl
      have hcz16_3 : wr.cell? ⟨gb383, 3, none⟩ = some (.int .i64 a0_3) := (blk_cell BK383.out 3).trans rfl
      have hcz16_4 : wr.cell? ⟨gb383, 4, none⟩ = some (.int .i64 a0_4) := (blk_cell BK383.out 4).trans rfl
      have hfz16_0 := blk_frozen BK383.out 0
      have hfz16_1 := blk_frozen BK383.out 1
      have hfz16_2 := blk_frozen BK383.out 2
      have hfz16_3 := blk_frozen BK383.out 3
      have hfz16_4 := blk_frozen BK383.out 4
      go_wp2_with (first | ((with_reducible refine gate_callee (f := 31) rfl ?_); refine goesL_ (some 20) rfl rfl Try.func31 (by kernel_rfl) rfl #[.int .i64 a0_2, .int .i64 0, .int .i64 10000000] rfl (by (try simp only [List.map_toArray, List.map_cons, List.map_nil]); first | done | rfl | (simp only [List.length_drop, List.length_take]; rfl)) ?_; (with_reducible refine (gangsawref49_in.calls a0_2 0 10000000 true _ A11.out).mono ?_); rintro e w' ⟨rfl, ⟨nd, rfl⟩⟩; refine ⟨_, rfl, ?_⟩) | (go_at_call 31; (with_reducible refine (gangsawref49_in.calls a0_3 0 10000000 true _ A13.out).mono ?_); rintro e w' ⟨rfl, ⟨nd, rfl⟩⟩) | (go_at_call 31; (with_reducible refine (gangsawref49_in.calls a0_4 0 100 t388 _ A15.out).mono ?_); rintro e w' ⟨rfl, ⟨nd, rfl⟩⟩))
      go_ret
      exact ⟨by first | rfl | (simp [errW_none, errW_some] <;> rfl) | (simp [*, errW_none, errW_some] <;> rfl), by repeat (first | (with_reducible first | exact HB.out | apply below_alloc | apply pw_below_drewN | apply below_drew1 | refine below_set ?_ GE383.out) | exact HB.out)⟩
     ·replace c14 := Bool.eq_false_iff.mpr c14
      subst c14
      have H1 : (some false) = some r := by rw [if_neg (show ¬ (false = true) by decide)] at H; exact H
      clear H
      have H := H1
      clear H1
      obtain rfl := Option.some.inj H
      simp only [Option.some.injEq, Prod.mk.injEq] at H
      obtain ⟨rfl⟩ := H
      have hcz17_0 : wr.cell? ⟨gb383, 0, none⟩ = some (.string a0_0) := (blk_cell BK383.out 0).trans rfl
      have hcz17_1 : wr.cell? ⟨gb383, 1, none⟩ = some (.slice A0_1 l0_1.length c0_1) := (blk_cell BK383.out 1).trans rfl
      have hcz17_2 : wr.cell? ⟨gb383, 2, none⟩ = some (.int .i64 a0_2) := (blk_cell BK383.out 2).trans rfl
      have hcz17_3 : wr.cell? ⟨gb383, 3, none⟩ = some (.int .i64 a0_3) := (blk_cell BK383.out 3).trans rfl
      have hcz17_4 : wr.cell? ⟨gb383, 4, none⟩ = some (.int .i64 a0_4) := (blk_cell BK383.out 4).trans rfl
      have hfz17_0 := blk_frozen BK383.out 0
      have hfz17_1 := blk_frozen BK383.out 1
      have hfz17_2 := blk_frozen BK383.out 2
      have hfz17_3 := blk_frozen BK383.out 3
      have hfz17_4 := blk_frozen BK383.out 4
      go_wp2_with (first | ((with_reducible refine gate_callee (f := 31) rfl ?_); refine goesL_ (some 20) rfl rfl Try.func31 (by kernel_rfl) rfl #[.int .i64 a0_2, .int .i64 0, .int .i64 10000000] rfl (by (try simp only [List.map_toArray, List.map_cons, List.map_nil]); first | done | rfl | (simp only [List.length_drop, List.length_take]; rfl)) ?_; (with_reducible refine (gangsawref49_in.calls a0_2 0 10000000 true _ A11.out).mono ?_); rintro e w' ⟨rfl, ⟨nd, rfl⟩⟩; refine ⟨_, rfl, ?_⟩) | (go_at_call 31; (with_reducible refine (gangsawref49_in.calls a0_3 0 10000000 false _ A13.out).mono ?_); rintro e w' ⟨rfl, ⟨nd, rfl⟩⟩))
      go_ret
      exact ⟨by first | rfl | (simp [errW_none, errW_some] <;> rfl) | (simp [*, errW_none, errW_some] <;> rfl), by repeat (first | (with_reducible first | exact HB.out | apply below_alloc | apply pw_below_drewN | apply below_drew1 | refine below_set ?_ GE383.out) | exact HB.out)⟩
    ·replace c12 := Bool.eq_false_iff.mpr c12
     subst c12
     have H1 : (some false) = some r := by rw [if_neg (show ¬ (false = true) by decide)] at H; exact H
     clear H
     have H := H1
     clear H1
     obtain rfl := Option.some.inj H
     simp only [Option.some.injEq, Prod.mk.injEq] at H
     obtain ⟨rfl⟩ := H
     have hcz18_0 : wr.cell? ⟨gb383, 0, none⟩ = some (.string a0_0) := (blk_cell BK383.out 0).trans rfl
     have hcz18_1 : wr.cell? ⟨gb383, 1, none⟩ = some (.slice A0_1 l0_1.length c0_1) := (blk_cell BK383.out 1).trans rfl
     have hcz18_2 : wr.cell? ⟨gb383, 2, none⟩ = some (.int .i64 a0_2) := (blk_cell BK383.out 2).trans rfl
     have hcz18_3 : wr.cell? ⟨gb383, 3, none⟩ = some (.int .i64 a0_3) := (blk_cell BK383.out 3).trans rfl
     have hcz18_4 : wr.cell? ⟨gb383, 4, none⟩ = some (.int .i64 a0_4) := (blk_cell BK383.out 4).trans rfl
     have hfz18_0 := blk_frozen BK383.out 0
     have hfz18_1 := blk_frozen BK383.out 1
     have hfz18_2 := blk_frozen BK383.out 2
     have hfz18_3 := blk_frozen BK383.out 3
     have hfz18_4 := blk_frozen BK383.out 4
     go_wp2_with (first | ((with_reducible refine gate_callee (f := 31) rfl ?_); refine goesL_ (some 20) rfl rfl Try.func31 (by kernel_rfl) rfl #[.int .i64 a0_2, .int .i64 0, .int .i64 10000000] rfl (by (try simp only [List.map_toArray, List.map_cons, List.map_nil]); first | done | rfl | (simp only [List.length_drop, List.length_take]; rfl)) ?_; (with_reducible refine (gangsawref49_in.calls a0_2 0 10000000 false _ A11.out).mono ?_); rintro e w' ⟨rfl, ⟨nd, rfl⟩⟩; refine ⟨_, rfl, ?_⟩))
     go_ret
     exact ⟨by first | rfl | (simp [errW_none, errW_some] <;> rfl) | (simp [*, errW_none, errW_some] <;> rfl), by repeat (first | (with_reducible first | exact HB.out | apply below_alloc | apply pw_below_drewN | apply below_drew1 | refine below_set ?_ GE383.out) | exact HB.out)⟩

end Go.Proofs.Ytpfggghpkdnppaa.P
