/- What functions of the program return: each contract says so of one function, for every input at which its pure function yields. -/
import Derived.Test.YtfedmcehkpfciaaGreatPx0
import Derived.Test.YtfedmcehkpfciaaGreatPx12
import Derived.Test.YtfedmcehkpfciaaGreatPx13
import Derived.Test.YtfedmcehkpfciaaGreatFirst
import Derived.Test.YtfedmcehkpfciaaGreatHof
import Derived.Test.YtfedmcehkpfciaaGreatSym
import Derived.Test.YtfedmcehkpfciaaGreatSymC
namespace Go.Proofs.YtfedmcehkpfciaaGreat.P
open Go.RowKit Go.Proofs.YtfedmcehkpfciaaGreatW.PrintWords Go.Proofs.YtfedmcehkpfciaaGreatW.PrintLast Go.Proofs.YtfedmcehkpfciaaGreatW.PrintMore
attribute [local go_sem] max2_int min2_int max_two min_two max_three min_three max_four min_four   -- for this text's walks alone
set_option linter.unusedVariables false
set_option linter.unusedSimpArgs false

open Go.Proofs.YtfedmcehkpfciaaGreat.First Go.Proofs.YtfedmcehkpfciaaGreat.Hof Go.Proofs.YtfedmcehkpfciaaGreat.Sym Go.Proofs.YtfedmcehkpfciaaGreat.SymC
def boring_CheckAll.l0 : Nat → List (S33) → List (S33) → Int → Int → Option (Int)
 | 0, _, _, _, _ => none
 | k + 1, x0, x24, x25, x26 => if x26 < x25 then (if 0 ≤ x26 then (if x26 < (x24.length : Int) then (if x26 ≤ (x0.length : Int) then ((contains33.f (x0.take (x26 : Int).toNat) (fun x_ => boring_CheckAll_1.f x_.f0 x_.f1.f0 x_.f1.f1 x_.f2 ((rd_T33 x24 x26).f0) ((rd_T33 x24 x26).f1.f0) ((rd_T33 x24 x26).f1.f1) ((rd_T33 x24 x26).f2))).bind fun t354 => (if t354 = true then (some 5) else (boring_CheckAll.l0 k x0 x24 x25 (wrap64 (x26 + 1))))) else (none)) else (none)) else (none)) else (some 0)
def boring_CheckAll.f (k : Nat) (l0 : List (S33)) (a1_0 : Int) (a1_1 : Int) (a1_2 : Int) (a1_3 : Int) (a1_4 : Int) (a1_5 : Int) : Option (Int) := if (l0.length : Int) > 64 then (some 7) else ((box_Check.f a1_0 a1_1 a1_2 a1_3 a1_4 a1_5).bind fun t345 => (if t345 = 0 then ((boring_within.f a1_0 a1_1 a1_2 a1_3 a1_4 a1_5).bind fun t346 => ((boring_first.f l0 t346).bind fun t347 => (if t347 = 0 then (boring_CheckAll.l0 k l0 l0 (l0.length : Int) 0) else (some t347)))) else (some t345)))
theorem boring_CheckAll.mono_l : ∀ k, (∀ y0 y1 y2 y3, LeO (boring_CheckAll.l0 k y0 y1 y2 y3) (boring_CheckAll.l0 (k + 1) y0 y1 y2 y3))
 | 0 => fun _ _ _ _ r h => by simp [boring_CheckAll.l0] at h
 | k + 1 => by
  have ih0 := boring_CheckAll.mono_l k
  ·intro y0 y1 y2 y3
   unfold boring_CheckAll.l0
   repeat' first
   | (with_reducible exact ih0 _ _ _ _)
   | (with_reducible refine contains3.mono2 (fun x_ => ?_))
   | (with_reducible refine contains33.mono2 (fun x_ => ?_))
   | (with_reducible refine contains48.mono2 (fun x_ => ?_))
   | (with_reducible refine contains9.mono2 (fun x_ => ?_))
   | (with_reducible refine index3.mono2 (fun x_ => ?_))
   | (with_reducible refine index33.mono2 (fun x_ => ?_))
   | (with_reducible refine index48.mono2 (fun x_ => ?_))
   | (with_reducible refine index9.mono2 (fun x_ => ?_))
   | (with_reducible exact LeO.refl _)
   | (with_reducible exact LeO.none _)
   | (with_reducible refine LeO.ite ?_ ?_)
   | (with_reducible refine LeO.bind ?_ (fun _ => ?_))
   | exact ih0 _ _ _ _
   | exact LeO.none _
   | refine LeO.ite ?_ ?_
   | refine LeO.bind ?_ (fun _ => ?_)
theorem boring_CheckAll.mono : ∀ a0 a1 a2 a3 a4 a5 a6 k, LeO (boring_CheckAll.f k a0 a1 a2 a3 a4 a5 a6) (boring_CheckAll.f (k + 1) a0 a1 a2 a3 a4 a5 a6) := by
 intro a0 a1 a2 a3 a4 a5 a6 k
 have ih0 := boring_CheckAll.mono_l k
 unfold boring_CheckAll.f
 repeat' first
   | (with_reducible exact ih0 _ _ _ _)
   | (with_reducible refine contains3.mono2 (fun x_ => ?_))
   | (with_reducible refine contains33.mono2 (fun x_ => ?_))
   | (with_reducible refine contains48.mono2 (fun x_ => ?_))
   | (with_reducible refine contains9.mono2 (fun x_ => ?_))
   | (with_reducible refine index3.mono2 (fun x_ => ?_))
   | (with_reducible refine index33.mono2 (fun x_ => ?_))
   | (with_reducible refine index48.mono2 (fun x_ => ?_))
   | (with_reducible refine index9.mono2 (fun x_ => ?_))
   | (with_reducible exact LeO.refl _)
   | (with_reducible exact LeO.none _)
   | (with_reducible refine LeO.ite ?_ ?_)
   | (with_reducible refine LeO.bind ?_ (fun _ => ?_))
   | exact ih0 _ _ _ _
   | exact LeO.none _
   | refine LeO.ite ?_ ?_
   | refine LeO.bind ?_ (fun _ => ?_)
set_option maxHeartbeats 8000000 in
set_option maxRecDepth 100000 in
theorem boring_CheckAll.calls (k : Nat) (A0 : Option Addr) (c0 : Nat) (l0 : List (S33)) (a1_0 : Int) (a1_1 : Int) (a1_2 : Int) (a1_3 : Int) (a1_4 : Int) (a1_5 : Int) (r : Int) (w : World) (hr0 : Kd.C k33 w A0 l0.length l0) (hc0 : l0.length ≤ c0) (h : boring_CheckAll.f k l0 a1_0 a1_1 a1_2 a1_3 a1_4 a1_5 = some r) :
  Calls Tryz.prog 15 #[.slice A0 l0.length c0, .agg #[.int .i64 a1_0, .int .i64 a1_1, .int .i64 a1_2, .int .i64 a1_3, .int .i64 a1_4, .int .i64 a1_5]] w fun e w' => e = .returned (.int .i64 r) ∧ Below w.heap.size w w' := by
 have hu26 := Tryz.underlying26
 have hu33 := Tryz.underlying33
 have HR0 := aK hr0
 have HC0 := aK hc0
 clear hr0 hc0
 have HB := aK (Below.refl w.heap.size w)
 have H : (if (l0.length : Int) > 64 then (some 7) else ((box_Check.f a1_0 a1_1 a1_2 a1_3 a1_4 a1_5).bind fun t345 => (if t345 = 0 then ((boring_within.f a1_0 a1_1 a1_2 a1_3 a1_4 a1_5).bind fun t346 => ((boring_first.f l0 t346).bind fun t347 => (if t347 = 0 then (boring_CheckAll.l0 k l0 l0 (l0.length : Int) 0) else (some t347)))) else (some t345)))) = some r := h
 clear h
 by_cases c3 : (l0.length : Int) > 64
 ·rw [if_pos c3] at H
  have c3b0 : decide (64 < (l0.length : Int)) = true := decide_eq_true c3
  have c3b1 : decide (64 < l0.length) = true := decide_eq_true (by omega)
  clear c3
  obtain rfl := Option.some.inj H
  simp only [Option.some.injEq, Prod.mk.injEq] at H
  obtain ⟨rfl⟩ := H
  go_enter Tryz.func15, Tryz.ntmps15
  go_wp2_with (first | ((with_reducible refine gate_dst (N := 3) rfl ?_); refine box_event ?hg (N := 3) ?hd (cs := #[.int .i64 a1_0, .int .i64 a1_1, .int .i64 a1_2, .int .i64 a1_3, .int .i64 a1_4, .int .i64 a1_5]) (t := 26) ?hr ?_; (case hd => rfl); (case hg => rfl); (case hr => first | (go_simp; done) | (go_simp; rfl)); intro gb344 hg w4 hbox hb; have ⟨n0_, n2_⟩ := zV (w := w) hb hg (by repeat (first | (with_reducible first | exact HB.out | apply yA | apply yN | apply yD) | exact HB.out)); have n1_ := aK (hbox); have n3_ := n2_; clear HB; have HB := n0_; have BK344 := n1_; have GW344 := n2_; have GE344 := n3_; clear n0_ n1_ n2_ n3_; clear hb hbox hg))
  go_ret
  exact ⟨by first | rfl | (simp [errW_none, errW_some] <;> rfl) | (simp [*, errW_none, errW_some] <;> rfl), by repeat (first | (with_reducible first | exact HB.out | apply yA | apply yN | apply yD | refine yS ?_ GE344.out) | exact HB.out)⟩
 ·rw [if_neg c3] at H
  have c3b0 : decide (64 < (l0.length : Int)) = false := decide_eq_false c3
  have c3b1 : decide (64 < l0.length) = false := decide_eq_false (by omega)
  clear c3
  replace H := Option.bind_eq_some_iff.mp H
  obtain ⟨t345, A50, H⟩ := H
  replace H : (if t345 = 0 then ((boring_within.f a1_0 a1_1 a1_2 a1_3 a1_4 a1_5).bind fun t346 => ((boring_first.f l0 t346).bind fun t347 => (if t347 = 0 then (boring_CheckAll.l0 k l0 l0 (l0.length : Int) 0) else (some t347)))) else (some t345)) = some r := H
  have A5 := aK A50
  clear A50
  by_cases c6 : t345 = 0
  ·rw [if_pos c6] at H
   have c6b0 : (t345 == 0) = true := beq_iff_eq.mpr c6
   have c6b1 : (t345 != 0) = false := bne_eq_false_iff_eq.mpr c6
   clear c6
   replace H := Option.bind_eq_some_iff.mp H
   obtain ⟨t346, A70, H⟩ := H
   replace H : ((boring_first.f l0 t346).bind fun t347 => (if t347 = 0 then (boring_CheckAll.l0 k l0 l0 (l0.length : Int) 0) else (some t347))) = some r := H
   have A7 := aK A70
   clear A70
   replace H := Option.bind_eq_some_iff.mp H
   obtain ⟨t347, A80, H⟩ := H
   replace H : (if t347 = 0 then (boring_CheckAll.l0 k l0 l0 (l0.length : Int) 0) else (some t347)) = some r := H
   have A8 := aK A80
   clear A80
   by_cases c9 : t347 = 0
   ·rw [if_pos c9] at H
    have c9b0 : (t347 == 0) = true := beq_iff_eq.mpr c9
    have c9b1 : (t347 != 0) = false := bne_eq_false_iff_eq.mpr c9
    clear c9
    have H' := aK H
    clear H
    go_enter Tryz.func15, Tryz.ntmps15
    go_wp2_with (first | ((with_reducible refine gate_dst (N := 3) rfl ?_); refine box_event ?hg (N := 3) ?hd (cs := #[.int .i64 a1_0, .int .i64 a1_1, .int .i64 a1_2, .int .i64 a1_3, .int .i64 a1_4, .int .i64 a1_5]) (t := 26) ?hr ?_; (case hd => rfl); (case hg => rfl); (case hr => first | (go_simp; done) | (go_simp; rfl)); intro gb344 hg w10 hbox hb; have ⟨n0_, n2_⟩ := zV (w := w) hb hg (by repeat (first | (with_reducible first | exact HB.out | apply yA | apply yN | apply yD) | exact HB.out)); have n1_ := aK (hbox); have n3_ := n2_; clear HB; have HB := n0_; have BK344 := n1_; have GW344 := n2_; have GE344 := n3_; clear n0_ n1_ n2_ n3_; clear hb hbox hg; have hcz11_0 := zI BK344 0 rfl; have hcz11_1 := zI BK344 1 rfl; have hcz11_2 := zI BK344 2 rfl; have hcz11_3 := zI BK344 3 rfl; have hcz11_4 := zI BK344 4 rfl; have hcz11_5 := zI BK344 5 rfl; have hfz11_0 := zF BK344.out 0; have hfz11_1 := zF BK344.out 1; have hfz11_2 := zF BK344.out 2; have hfz11_3 := zF BK344.out 3; have hfz11_4 := zF BK344.out 4; have hfz11_5 := zF BK344.out 5) | ((with_reducible refine gate_callee (f := 39) rfl ?_); refine goesL_ (some 13) rfl rfl Tryz.func39 (by kernel_rfl) rfl #[.agg #[.int .i64 a1_0, .int .i64 a1_1, .int .i64 a1_2, .int .i64 a1_3, .int .i64 a1_4, .int .i64 a1_5]] rfl (by (try simp only [List.map_toArray, List.map_cons, List.map_nil]); first | done | rfl | (simp only [List.length_drop, List.length_take]; rfl)) ?_; (with_reducible refine (box_Check.calls a1_0 a1_1 a1_2 a1_3 a1_4 a1_5 t345 _ A5.out).mono ?_); rintro e w12 ⟨rfl, hb⟩; refine ⟨_, rfl, ?_⟩; have n0_ := zG BK344 hb (fun h => by (with_reducible repeat (first | refine zN ?_ _ | refine zD ?_ | refine zA ?_ _)); exact h); have n1_ := aK (yT (by repeat (first | (with_reducible first | exact HB.out | apply yA | apply yN | apply yD | refine yS ?_ GE344.out) | exact HB.out)) hb); clear BK344; clear HB; have BK344 := n0_; have HB := n1_; clear n0_ n1_; (try clear hb); (try clear hb2); (try clear hk); (try clear hi); have hcz13_0 := zI BK344 0 rfl; have hcz13_1 := zI BK344 1 rfl; have hcz13_2 := zI BK344 2 rfl; have hcz13_3 := zI BK344 3 rfl; have hcz13_4 := zI BK344 4 rfl; have hcz13_5 := zI BK344 5 rfl; have hfz13_0 := zF BK344.out 0; have hfz13_1 := zF BK344.out 1; have hfz13_2 := zF BK344.out 2; have hfz13_3 := zF BK344.out 3; have hfz13_4 := zF BK344.out 4; have hfz13_5 := zF BK344.out 5) | ((with_reducible refine gate_callee (f := 41) rfl ?_); refine goesL_ (some 19) rfl rfl Tryz.func41 (by kernel_rfl) rfl #[.agg #[.int .i64 a1_0, .int .i64 a1_1, .int .i64 a1_2, .int .i64 a1_3, .int .i64 a1_4, .int .i64 a1_5]] rfl (by (try simp only [List.map_toArray, List.map_cons, List.map_nil]); first | done | rfl | (simp only [List.length_drop, List.length_take]; rfl)) ?_; (with_reducible refine (boring_within.calls a1_0 a1_1 a1_2 a1_3 a1_4 a1_5 t346 _ A7.out).mono ?_); rintro e w14 ⟨vft346, rfl, ⟨gft346, lft346, rfl, eft346, hpt346⟩, hb⟩; refine ⟨_, rfl, ?_⟩; have HFt346 := aK (show FnET Tryz.prog (.slice gft346 5 5) t346 w14 from ⟨gft346, lft346, rfl, eft346, hpt346⟩); clear hpt346; have HBt346 := aK (Below.refl w14.heap.size w14); have n0_ := zG BK344 hb (fun h => by (with_reducible repeat (first | refine zN ?_ _ | refine zD ?_ | refine zA ?_ _)); exact h); have n1_ := aK (yT (by repeat (first | (with_reducible first | exact HB.out | apply yA | apply yN | apply yD | refine yS ?_ GE344.out) | exact HB.out)) hb); clear BK344; clear HB; have BK344 := n0_; have HB := n1_; clear n0_ n1_; (try clear hb); (try clear hb2); (try clear hk); (try clear hi)) | ((with_reducible refine gate_callee (f := 40) rfl ?_); refine goesL_ (some 20) rfl rfl Tryz.func40 (by kernel_rfl) rfl #[.slice A0 l0.length c0, .slice gft346 5 5] rfl (by (try simp only [List.map_toArray, List.map_cons, List.map_nil]); first | done | rfl | (simp only [List.length_drop, List.length_take]; rfl)) ?_; (with_reducible refine (boring_first.calls _ _ l0 (.slice gft346 5 5) t346 t347 _ ?side1 ?side2 ?side3 A8.out).mono ?_); (case side1 => repeat (first | exact (Kd.C_below HR0.out HB.out) | (with_reducible refine Kd.C_alloc ?_ _) | (with_reducible refine Kd.C_drewN ?_ _) | (with_reducible refine Kd.C_drew ?_))); (case side2 => exact HC0.out); (case side3 => exact FnET.below HFt346.out (by repeat (first | (with_reducible first | exact HBt346.out | apply yA | apply yN | apply yD) | exact HBt346.out))); rintro e w15 ⟨rfl, hb⟩; refine ⟨_, rfl, ?_⟩; have n0_ := zG BK344 hb (fun h => by (with_reducible repeat (first | refine zN ?_ _ | refine zD ?_ | refine zA ?_ _)); exact h); have n1_ := aK (yT (by repeat (first | (with_reducible first | exact HBt346.out | apply yA | apply yN | apply yD) | exact HBt346.out)) hb); have n2_ := aK (yT (by repeat (first | (with_reducible first | exact HB.out | apply yA | apply yN | apply yD | refine yS ?_ GE344.out) | exact HB.out)) hb); clear BK344; clear HBt346; clear HB; have BK344 := n0_; have HBt346 := n1_; have HB := n2_; clear n0_ n1_ n2_; (try clear hb); (try clear hb2); (try clear hk); (try clear hi)))
    go_loopg [26] k (fun kq v26 w' => ∃ (x26_1 : Int), v26 = .int .i64 x26_1 ∧ Aside0 (boring_CheckAll.l0 kq l0 l0 (l0.length : Int) x26_1 = some r) ∧ Aside0 (kq ≤ k) ∧ Aside0 (w'.heap[gb344]? = some (.cells #[.int .i64 a1_0, .int .i64 a1_1, .int .i64 a1_2, .int .i64 a1_3, .int .i64 a1_4, .int .i64 a1_5] 26 (0, 0))) ∧ Aside0 (Below w.heap.size w w'))
    case atStart => exact ⟨(0), (by first | rfl | (simp; done) | (simp [*]; done)), H', ⟨Nat.le_refl _⟩, ⟨by (with_reducible repeat (first | refine zN ?_ _ | refine zD ?_ | refine zA ?_ _)); exact BK344.out⟩, ⟨by repeat (first | (with_reducible first | exact HB.out | apply yA | apply yN | apply yD | refine yS ?_ GE344.out) | exact HB.out)⟩⟩
    case round =>
     clear H'
     try clear c1
     try clear p2
     try clear c3
     try clear c3b0
     try clear c3b1
     try clear c4
     try clear c6
     try clear c6b0
     try clear c6b1
     try clear c9
     try clear c9b0
     try clear c9b1
     try clear c15
     try clear hcz11_0
     try clear hcz11_1
     try clear hcz11_2
     try clear hcz11_3
     try clear hcz11_4
     try clear hcz11_5
     try clear hcz13_0
     try clear hcz13_1
     try clear hcz13_2
     try clear hcz13_3
     try clear hcz13_4
     try clear hcz13_5
     try clear hfz11_0
     try clear hfz11_1
     try clear hfz11_2
     try clear hfz11_3
     try clear hfz11_4
     try clear hfz11_5
     try clear hfz13_0
     try clear hfz13_1
     try clear hfz13_2
     try clear hfz13_3
     try clear hfz13_4
     try clear hfz13_5
     obtain ⟨x26_1, rfl, HA, HK1, BK344, HB⟩ := hrel
     cases gk with
     | zero => exact absurd HA.out (by simp [boring_CheckAll.l0])
     | succ k1 =>
      have H := HA.out
      clear HA
      simp only [boring_CheckAll.l0] at H
      by_cases c16 : x26_1 < (l0.length : Int)
      ·rw [if_pos c16] at H
       have c16b0 : decide (x26_1 < (l0.length : Int)) = true := decide_eq_true c16
       clear c16
       by_cases c17 : 0 ≤ x26_1
       ·rw [if_pos c17] at H
        have c17b0 : decide (0 ≤ x26_1) = true := decide_eq_true c17
        clear c17
        by_cases c18 : x26_1 < (l0.length : Int)
        ·rw [if_pos c18] at H
         have c18b0 : decide (x26_1 < (l0.length : Int)) = true := decide_eq_true c18
         clear c18
         have c19b0 := eq_true (of_decide_eq_true (by first | (with_reducible assumption) | assumption) : 0 ≤ x26_1)
         by_cases c20 : x26_1 ≤ (l0.length : Int)
         ·rw [if_pos c20] at H
          have c20b0 := eq_true c20
          have c20b1 : decide (x26_1 ≤ (l0.length : Int)) = true := decide_eq_true c20
          clear c20
          obtain ⟨y350, hy350⟩ : ∃ y_ : List (S33), y_ = (l0.take (x26_1 : Int).toNat) := ⟨_, rfl⟩
          replace H : ((contains33.f y350 (fun x_ => boring_CheckAll_1.f x_.f0 x_.f1.f0 x_.f1.f1 x_.f2 ((rd_T33 l0 x26_1).f0) ((rd_T33 l0 x26_1).f1.f0) ((rd_T33 l0 x26_1).f1.f1) ((rd_T33 l0 x26_1).f2))).bind fun t354 => (if t354 = true then (some 5) else (boring_CheckAll.l0 k1 l0 l0 (l0.length : Int) (wrap64 (x26_1 + 1))))) = some r := by first | (rw [hy350]; with_reducible exact H) | (have H2_ := (Option.bind_some _ _).symm.trans H; rw [hy350]; with_reducible exact H2_) | (have H2_ := (Option.bind_some _ _).symm.trans H; with_reducible exact H2_) | with_reducible exact H | (rw [hy350]; exact H) | exact H
          have Ny350 := aK hy350
          clear hy350
          replace H := Option.bind_eq_some_iff.mp H
          obtain ⟨t354, A210, H⟩ := H
          replace H : (if t354 = true then (some 5) else (boring_CheckAll.l0 k1 l0 l0 (l0.length : Int) (wrap64 (x26_1 + 1)))) = some r := H
          have A21 := aK A210
          clear A210
          by_cases c22 : t354 = true
          ·subst c22
           have H1 : (some 5) = some r := by rw [if_pos rfl] at H; exact H
           clear H
           have H := H1
           clear H1
           obtain rfl := Option.some.inj H
           simp only [Option.some.injEq, Prod.mk.injEq] at H
           obtain ⟨rfl⟩ := H
           have p348 : 0 ≤ (x26_1 : Int) := of_decide_eq_true (by first | (with_reducible assumption) | assumption)
           have q348 : x26_1 < (l0.length : Int) := of_decide_eq_true (by first | (with_reducible assumption) | assumption)
           obtain ⟨ad348, A348_3, c348_3, e348, hx348_0, hx348_1, hx348_2, hx348_3, hl348_3, hi348_3⟩ := at_T33 HR0.out x26_1 p348 q348
           cases e348
           replace hx348_0 := (HB.out.cell (World.block_lt_of_cell? w _ hx348_0)).trans hx348_0
           replace hx348_1 := (HB.out.cell (World.block_lt_of_cell? w _ hx348_1)).trans hx348_1
           replace hx348_2 := (HB.out.cell (World.block_lt_of_cell? w _ hx348_2)).trans hx348_2
           replace hx348_3 := (HB.out.cell (World.block_lt_of_cell? w _ hx348_3)).trans hx348_3
           have HR348_3 := aK hi348_3
           have HC348_3 := aK hl348_3
           clear hi348_3 hl348_3
           replace p348 := eq_true p348
           replace q348 := eq_true q348
           go_wp2_with (first | ((with_reducible refine gate_dst (N := 8) rfl ?_); refine box_event ?hg (N := 8) ?hd (cs := #[.string (⟨#[]⟩ : ByteArray), .int .i64 0, .int .i64 0, .slice none 0 0]) (t := 33) ?hr ?_; (case hd => rfl); (case hg => rfl); (case hr => first | (go_simp; done) | (go_simp; rfl)); intro gb349 hg w23 hbox hb; have n0_ := zG BK344 hb (fun h => by (with_reducible repeat (first | refine zN ?_ _ | refine zD ?_ | refine zA ?_ _)); exact h); have ⟨n1_, n3_⟩ := zV (w := w) hb hg (by repeat (first | (with_reducible first | exact HB.out | apply yA | apply yN | apply yD | refine yS ?_ GE344.out) | exact HB.out)); have n2_ := aK (hbox); have n4_ := n3_; have n5_ := aK ((by rw [hg]; exact Nat.ne_of_lt (blk_lt (g := gb344) (o := .cells #[.int .i64 a1_0, .int .i64 a1_1, .int .i64 a1_2, .int .i64 a1_3, .int .i64 a1_4, .int .i64 a1_5] 26 (0, 0)) (by (with_reducible repeat (first | refine zN ?_ _ | refine zD ?_ | refine zA ?_ _)); exact BK344.out)) : gb344 ≠ gb349)); have n6_ := aK ((by rw [hg]; exact Nat.ne_of_gt (blk_lt (g := gb344) (o := .cells #[.int .i64 a1_0, .int .i64 a1_1, .int .i64 a1_2, .int .i64 a1_3, .int .i64 a1_4, .int .i64 a1_5] 26 (0, 0)) (by (with_reducible repeat (first | refine zN ?_ _ | refine zD ?_ | refine zA ?_ _)); exact BK344.out)) : gb349 ≠ gb344)); clear BK344; clear HB; have BK344 := n0_; have HB := n1_; have BK349 := n2_; have GW349 := n3_; have GE349 := n4_; have NB344_349 := n5_; have NB349_344 := n6_; clear n0_ n1_ n2_ n3_ n4_ n5_ n6_; clear hb hbox hg; have hnb24 := NB349_344.out; have hnc24 := NB344_349.out; have hcz25_0 := zI BK349 0 rfl; have hcz25_1 := zI BK349 1 rfl; have hcz25_2 := zI BK349 2 rfl; have hcz25_3 := zI BK349 3 rfl; have hfz25_0 := zF BK349.out 0; have hfz25_1 := zF BK349.out 1; have hfz25_2 := zF BK349.out 2; have hfz25_3 := zF BK349.out 3) | ((with_reducible refine gate_store (t := 33) (p := 8) rfl ?_); refine store_event (t := 33) (p := 8) (v := ?vo_w26) (w1 := ((((w23.setCell ⟨gb349, 0, none⟩ (.string ((rd_T33 l0 x26_1).f0))).setCell ⟨gb349, 1, none⟩ (.int .i64 ((rd_T33 l0 x26_1).f1.f0))).setCell ⟨gb349, 2, none⟩ (.int .i64 ((rd_T33 l0 x26_1).f1.f1))).setCell ⟨gb349, 3, none⟩ (.slice A348_3 ((rd_T33 l0 x26_1).f2).length c348_3))) ?hg ?ho ?hn ?hr ?_; (case ho => rfl); (case hg => rfl); (case hn => rfl); (case hr => first | (go_simp; done) | (go_simp; rfl)); intro w26 hw; have n0_ : Aside0 (w26.heap[gb344]? = some (.cells #[.int .i64 a1_0, .int .i64 a1_1, .int .i64 a1_2, .int .i64 a1_3, .int .i64 a1_4, .int .i64 a1_5] 26 (0, 0))) := ⟨(by rw [hw]; exact (by (with_reducible repeat (first | refine zN ?_ _ | refine zD ?_ | refine zA ?_ _)); refine blk_far ?_ NB344_349.out _; (with_reducible repeat (first | refine zN ?_ _ | refine zD ?_ | refine zA ?_ _)); refine blk_far ?_ NB344_349.out _; (with_reducible repeat (first | refine zN ?_ _ | refine zD ?_ | refine zA ?_ _)); refine blk_far ?_ NB344_349.out _; (with_reducible repeat (first | refine zN ?_ _ | refine zD ?_ | refine zA ?_ _)); refine blk_far ?_ NB344_349.out _; (with_reducible repeat (first | refine zN ?_ _ | refine zD ?_ | refine zA ?_ _)); exact BK344.out))⟩; have n1_ : Aside0 (w26.heap[gb349]? = some (.cells #[.string ((rd_T33 l0 x26_1).f0), .int .i64 ((rd_T33 l0 x26_1).f1.f0), .int .i64 ((rd_T33 l0 x26_1).f1.f1), .slice A348_3 ((rd_T33 l0 x26_1).f2).length c348_3] 33 (0, 0))) := ⟨(by rw [hw]; exact (by (with_reducible repeat (first | refine zN ?_ _ | refine zD ?_ | refine zA ?_ _)); refine blk_put (cs := #[.string ((rd_T33 l0 x26_1).f0), .int .i64 ((rd_T33 l0 x26_1).f1.f0), .int .i64 ((rd_T33 l0 x26_1).f1.f1), .slice none 0 0]) ?_ 3 _ rfl; (with_reducible repeat (first | refine zN ?_ _ | refine zD ?_ | refine zA ?_ _)); refine blk_put (cs := #[.string ((rd_T33 l0 x26_1).f0), .int .i64 ((rd_T33 l0 x26_1).f1.f0), .int .i64 0, .slice none 0 0]) ?_ 2 _ rfl; (with_reducible repeat (first | refine zN ?_ _ | refine zD ?_ | refine zA ?_ _)); refine blk_put (cs := #[.string ((rd_T33 l0 x26_1).f0), .int .i64 0, .int .i64 0, .slice none 0 0]) ?_ 1 _ rfl; (with_reducible repeat (first | refine zN ?_ _ | refine zD ?_ | refine zA ?_ _)); refine blk_put (cs := #[.string (⟨#[]⟩ : ByteArray), .int .i64 0, .int .i64 0, .slice none 0 0]) ?_ 0 _ rfl; (with_reducible repeat (first | refine zN ?_ _ | refine zD ?_ | refine zA ?_ _)); exact BK349.out))⟩; have n2_ : Aside0 (Below w.heap.size w w26) := ⟨(by rw [hw]; exact (by repeat (first | (with_reducible first | exact HB.out | apply yA | apply yN | apply yD | refine yS ?_ GE344.out | refine yS ?_ GE349.out) | exact HB.out)))⟩; clear hw; clear BK344; clear BK349; clear HB; have BK344 := n0_; have BK349 := n1_; have HB := n2_; clear n0_ n1_ n2_; have q27 : (x26_1 : Int) ≤ ((l0.length : Int) : Int) := of_decide_eq_true (by first | (with_reducible assumption) | assumption); obtain ⟨i027, hi027, _, hsz27, _⟩ := info_parts info33; have hroom27 : l0.length ≤ c0 := HC0.out; have hC27 : Kd.C k33 _ (some ad348) l0.length l0 := HR0.out; have hcut27 := cut_to (P := Tryz.prog) 22 33 .i64 Tryz.underlying22 hi027 (some ad348) l0.length c0 x26_1 (of_decide_eq_true (by first | (with_reducible assumption) | assumption)) q27 hroom27; have hr27 := Kd.C_take (m := (x26_1 : Int).toNat) hC27 (by omega); have hy27 : y350.length = (x26_1 : Int).toNat := (by rw [Ny350.out, List.length_take]; omega); rw [← Ny350.out] at hr27; rw [← hy27] at hcut27; have HR353 := aK hr27; have HC353 := aK (show y350.length ≤ c0 from by omega); clear hr27 hC27 hroom27 hi027 hsz27; have KY27 := aK hy27; clear hy27; replace q27 := eq_true q27) | ((with_reducible refine gate_callee (f := 44) rfl ?_); refine goesL_ (some 35) rfl rfl Tryz.func44 (by kernel_rfl) rfl #[.slice (some ad348) y350.length c0, .func (.func 45) #[] #[.pointer (some ⟨gb349, 0, none⟩)]] rfl (by (try simp only [List.map_toArray, List.map_cons, List.map_nil]); first | done | rfl | (simp only [List.length_drop, List.length_take]; rfl)) ?_; (with_reducible refine (contains33.calls _ _ y350 (.func (.func 45) #[] #[.pointer (some ⟨gb349, 0, none⟩)]) (fun x_ => boring_CheckAll_1.f x_.f0 x_.f1.f0 x_.f1.f1 x_.f2 ((rd_T33 l0 x26_1).f0) ((rd_T33 l0 x26_1).f1.f0) ((rd_T33 l0 x26_1).f1.f1) ((rd_T33 l0 x26_1).f2)) true _ ?side1 ?side2 ?side3 A21.out).mono ?_); (case side1 => repeat (first | exact (Kd.C_below HR353.out HB.out) | (with_reducible refine Kd.C_alloc ?_ _) | (with_reducible refine Kd.C_drewN ?_ _) | (with_reducible refine Kd.C_drew ?_))); (case side2 => exact HC353.out); (case side3 => exact boring_CheckAll_1.fn  gb349 ((rd_T33 l0 x26_1).f0) ((rd_T33 l0 x26_1).f1.f0) ((rd_T33 l0 x26_1).f1.f1) A348_3 c348_3 ((rd_T33 l0 x26_1).f2) _ (by (with_reducible repeat (first | refine zN ?_ _ | refine zD ?_ | refine zA ?_ _)); exact BK349.out) (by repeat (first | exact (Kd.C_below HR348_3.out HB.out) | (with_reducible refine Kd.C_alloc ?_ _) | (with_reducible refine Kd.C_drewN ?_ _) | (with_reducible refine Kd.C_drew ?_))) (by exact HC348_3.out)); rintro e w28 ⟨rfl, hb⟩; refine ⟨_, rfl, ?_⟩; have n0_ := zG BK344 hb (fun h => by (with_reducible repeat (first | refine zN ?_ _ | refine zD ?_ | refine zA ?_ _)); exact h); have n1_ := zG BK349 hb (fun h => by (with_reducible repeat (first | refine zN ?_ _ | refine zD ?_ | refine zA ?_ _)); exact h); have n2_ := aK (yT (by repeat (first | (with_reducible first | exact HB.out | apply yA | apply yN | apply yD | refine yS ?_ GE344.out | refine yS ?_ GE349.out) | exact HB.out)) hb); clear BK344; clear BK349; clear HB; have BK344 := n0_; have BK349 := n1_; have HB := n2_; clear n0_ n1_ n2_; (try clear hb); (try clear hb2); (try clear hk); (try clear hi)))
           go_ret
           exact ⟨by first | rfl | (simp [errW_none, errW_some] <;> rfl) | (simp [*, errW_none, errW_some] <;> rfl), by repeat (first | (with_reducible first | exact HB.out | apply yA | apply yN | apply yD | refine yS ?_ GE344.out | refine yS ?_ GE349.out) | exact HB.out)⟩
          ·replace c22 := Bool.eq_false_iff.mpr c22
           subst c22
           have H1 : (boring_CheckAll.l0 k1 l0 l0 (l0.length : Int) (wrap64 (x26_1 + 1))) = some r := by rw [if_neg (show ¬ (false = true) by decide)] at H; exact H
           clear H
           have H := H1
           clear H1
           have H' := aK H
           clear H
           have p348 : 0 ≤ (x26_1 : Int) := of_decide_eq_true (by first | (with_reducible assumption) | assumption)
           have q348 : x26_1 < (l0.length : Int) := of_decide_eq_true (by first | (with_reducible assumption) | assumption)
           obtain ⟨ad348, A348_3, c348_3, e348, hx348_0, hx348_1, hx348_2, hx348_3, hl348_3, hi348_3⟩ := at_T33 HR0.out x26_1 p348 q348
           cases e348
           replace hx348_0 := (HB.out.cell (World.block_lt_of_cell? w _ hx348_0)).trans hx348_0
           replace hx348_1 := (HB.out.cell (World.block_lt_of_cell? w _ hx348_1)).trans hx348_1
           replace hx348_2 := (HB.out.cell (World.block_lt_of_cell? w _ hx348_2)).trans hx348_2
           replace hx348_3 := (HB.out.cell (World.block_lt_of_cell? w _ hx348_3)).trans hx348_3
           have HR348_3 := aK hi348_3
           have HC348_3 := aK hl348_3
           clear hi348_3 hl348_3
           replace p348 := eq_true p348
           replace q348 := eq_true q348
           go_wp2_with (first | ((with_reducible refine gate_dst (N := 8) rfl ?_); refine box_event ?hg (N := 8) ?hd (cs := #[.string (⟨#[]⟩ : ByteArray), .int .i64 0, .int .i64 0, .slice none 0 0]) (t := 33) ?hr ?_; (case hd => rfl); (case hg => rfl); (case hr => first | (go_simp; done) | (go_simp; rfl)); intro gb349 hg w29 hbox hb; have n0_ := zG BK344 hb (fun h => by (with_reducible repeat (first | refine zN ?_ _ | refine zD ?_ | refine zA ?_ _)); exact h); have ⟨n1_, n3_⟩ := zV (w := w) hb hg (by repeat (first | (with_reducible first | exact HB.out | apply yA | apply yN | apply yD | refine yS ?_ GE344.out) | exact HB.out)); have n2_ := aK (hbox); have n4_ := n3_; have n5_ := aK ((by rw [hg]; exact Nat.ne_of_lt (blk_lt (g := gb344) (o := .cells #[.int .i64 a1_0, .int .i64 a1_1, .int .i64 a1_2, .int .i64 a1_3, .int .i64 a1_4, .int .i64 a1_5] 26 (0, 0)) (by (with_reducible repeat (first | refine zN ?_ _ | refine zD ?_ | refine zA ?_ _)); exact BK344.out)) : gb344 ≠ gb349)); have n6_ := aK ((by rw [hg]; exact Nat.ne_of_gt (blk_lt (g := gb344) (o := .cells #[.int .i64 a1_0, .int .i64 a1_1, .int .i64 a1_2, .int .i64 a1_3, .int .i64 a1_4, .int .i64 a1_5] 26 (0, 0)) (by (with_reducible repeat (first | refine zN ?_ _ | refine zD ?_ | refine zA ?_ _)); exact BK344.out)) : gb349 ≠ gb344)); clear BK344; clear HB; have BK344 := n0_; have HB := n1_; have BK349 := n2_; have GW349 := n3_; have GE349 := n4_; have NB344_349 := n5_; have NB349_344 := n6_; clear n0_ n1_ n2_ n3_ n4_ n5_ n6_; clear hb hbox hg; have hnb30 := NB349_344.out; have hnc30 := NB344_349.out; have hcz31_0 := zI BK349 0 rfl; have hcz31_1 := zI BK349 1 rfl; have hcz31_2 := zI BK349 2 rfl; have hcz31_3 := zI BK349 3 rfl; have hfz31_0 := zF BK349.out 0; have hfz31_1 := zF BK349.out 1; have hfz31_2 := zF BK349.out 2; have hfz31_3 := zF BK349.out 3) | ((with_reducible refine gate_store (t := 33) (p := 8) rfl ?_); refine store_event (t := 33) (p := 8) (v := ?vo_w32) (w1 := ((((w29.setCell ⟨gb349, 0, none⟩ (.string ((rd_T33 l0 x26_1).f0))).setCell ⟨gb349, 1, none⟩ (.int .i64 ((rd_T33 l0 x26_1).f1.f0))).setCell ⟨gb349, 2, none⟩ (.int .i64 ((rd_T33 l0 x26_1).f1.f1))).setCell ⟨gb349, 3, none⟩ (.slice A348_3 ((rd_T33 l0 x26_1).f2).length c348_3))) ?hg ?ho ?hn ?hr ?_; (case ho => rfl); (case hg => rfl); (case hn => rfl); (case hr => first | (go_simp; done) | (go_simp; rfl)); intro w32 hw; have n0_ : Aside0 (w32.heap[gb344]? = some (.cells #[.int .i64 a1_0, .int .i64 a1_1, .int .i64 a1_2, .int .i64 a1_3, .int .i64 a1_4, .int .i64 a1_5] 26 (0, 0))) := ⟨(by rw [hw]; exact (by (with_reducible repeat (first | refine zN ?_ _ | refine zD ?_ | refine zA ?_ _)); refine blk_far ?_ NB344_349.out _; (with_reducible repeat (first | refine zN ?_ _ | refine zD ?_ | refine zA ?_ _)); refine blk_far ?_ NB344_349.out _; (with_reducible repeat (first | refine zN ?_ _ | refine zD ?_ | refine zA ?_ _)); refine blk_far ?_ NB344_349.out _; (with_reducible repeat (first | refine zN ?_ _ | refine zD ?_ | refine zA ?_ _)); refine blk_far ?_ NB344_349.out _; (with_reducible repeat (first | refine zN ?_ _ | refine zD ?_ | refine zA ?_ _)); exact BK344.out))⟩; have n1_ : Aside0 (w32.heap[gb349]? = some (.cells #[.string ((rd_T33 l0 x26_1).f0), .int .i64 ((rd_T33 l0 x26_1).f1.f0), .int .i64 ((rd_T33 l0 x26_1).f1.f1), .slice A348_3 ((rd_T33 l0 x26_1).f2).length c348_3] 33 (0, 0))) := ⟨(by rw [hw]; exact (by (with_reducible repeat (first | refine zN ?_ _ | refine zD ?_ | refine zA ?_ _)); refine blk_put (cs := #[.string ((rd_T33 l0 x26_1).f0), .int .i64 ((rd_T33 l0 x26_1).f1.f0), .int .i64 ((rd_T33 l0 x26_1).f1.f1), .slice none 0 0]) ?_ 3 _ rfl; (with_reducible repeat (first | refine zN ?_ _ | refine zD ?_ | refine zA ?_ _)); refine blk_put (cs := #[.string ((rd_T33 l0 x26_1).f0), .int .i64 ((rd_T33 l0 x26_1).f1.f0), .int .i64 0, .slice none 0 0]) ?_ 2 _ rfl; (with_reducible repeat (first | refine zN ?_ _ | refine zD ?_ | refine zA ?_ _)); refine blk_put (cs := #[.string ((rd_T33 l0 x26_1).f0), .int .i64 0, .int .i64 0, .slice none 0 0]) ?_ 1 _ rfl; (with_reducible repeat (first | refine zN ?_ _ | refine zD ?_ | refine zA ?_ _)); refine blk_put (cs := #[.string (⟨#[]⟩ : ByteArray), .int .i64 0, .int .i64 0, .slice none 0 0]) ?_ 0 _ rfl; (with_reducible repeat (first | refine zN ?_ _ | refine zD ?_ | refine zA ?_ _)); exact BK349.out))⟩; have n2_ : Aside0 (Below w.heap.size w w32) := ⟨(by rw [hw]; exact (by repeat (first | (with_reducible first | exact HB.out | apply yA | apply yN | apply yD | refine yS ?_ GE344.out | refine yS ?_ GE349.out) | exact HB.out)))⟩; clear hw; clear BK344; clear BK349; clear HB; have BK344 := n0_; have BK349 := n1_; have HB := n2_; clear n0_ n1_ n2_; have q33 : (x26_1 : Int) ≤ ((l0.length : Int) : Int) := of_decide_eq_true (by first | (with_reducible assumption) | assumption); obtain ⟨i033, hi033, _, hsz33, _⟩ := info_parts info33; have hroom33 : l0.length ≤ c0 := HC0.out; have hC33 : Kd.C k33 _ (some ad348) l0.length l0 := HR0.out; have hcut33 := cut_to (P := Tryz.prog) 22 33 .i64 Tryz.underlying22 hi033 (some ad348) l0.length c0 x26_1 (of_decide_eq_true (by first | (with_reducible assumption) | assumption)) q33 hroom33; have hr33 := Kd.C_take (m := (x26_1 : Int).toNat) hC33 (by omega); have hy33 : y350.length = (x26_1 : Int).toNat := (by rw [Ny350.out, List.length_take]; omega); rw [← Ny350.out] at hr33; rw [← hy33] at hcut33; have HR353 := aK hr33; have HC353 := aK (show y350.length ≤ c0 from by omega); clear hr33 hC33 hroom33 hi033 hsz33; have KY33 := aK hy33; clear hy33; replace q33 := eq_true q33) | ((with_reducible refine gate_callee (f := 44) rfl ?_); refine goesL_ (some 35) rfl rfl Tryz.func44 (by kernel_rfl) rfl #[.slice (some ad348) y350.length c0, .func (.func 45) #[] #[.pointer (some ⟨gb349, 0, none⟩)]] rfl (by (try simp only [List.map_toArray, List.map_cons, List.map_nil]); first | done | rfl | (simp only [List.length_drop, List.length_take]; rfl)) ?_; (with_reducible refine (contains33.calls _ _ y350 (.func (.func 45) #[] #[.pointer (some ⟨gb349, 0, none⟩)]) (fun x_ => boring_CheckAll_1.f x_.f0 x_.f1.f0 x_.f1.f1 x_.f2 ((rd_T33 l0 x26_1).f0) ((rd_T33 l0 x26_1).f1.f0) ((rd_T33 l0 x26_1).f1.f1) ((rd_T33 l0 x26_1).f2)) false _ ?side1 ?side2 ?side3 A21.out).mono ?_); (case side1 => repeat (first | exact (Kd.C_below HR353.out HB.out) | (with_reducible refine Kd.C_alloc ?_ _) | (with_reducible refine Kd.C_drewN ?_ _) | (with_reducible refine Kd.C_drew ?_))); (case side2 => exact HC353.out); (case side3 => exact boring_CheckAll_1.fn  gb349 ((rd_T33 l0 x26_1).f0) ((rd_T33 l0 x26_1).f1.f0) ((rd_T33 l0 x26_1).f1.f1) A348_3 c348_3 ((rd_T33 l0 x26_1).f2) _ (by (with_reducible repeat (first | refine zN ?_ _ | refine zD ?_ | refine zA ?_ _)); exact BK349.out) (by repeat (first | exact (Kd.C_below HR348_3.out HB.out) | (with_reducible refine Kd.C_alloc ?_ _) | (with_reducible refine Kd.C_drewN ?_ _) | (with_reducible refine Kd.C_drew ?_))) (by exact HC348_3.out)); rintro e w34 ⟨rfl, hb⟩; refine ⟨_, rfl, ?_⟩; have n0_ := zG BK344 hb (fun h => by (with_reducible repeat (first | refine zN ?_ _ | refine zD ?_ | refine zA ?_ _)); exact h); have n1_ := zG BK349 hb (fun h => by (with_reducible repeat (first | refine zN ?_ _ | refine zD ?_ | refine zA ?_ _)); exact h); have n2_ := aK (yT (by repeat (first | (with_reducible first | exact HB.out | apply yA | apply yN | apply yD | refine yS ?_ GE344.out | refine yS ?_ GE349.out) | exact HB.out)) hb); clear BK344; clear BK349; clear HB; have BK344 := n0_; have BK349 := n1_; have HB := n2_; clear n0_ n1_ n2_; (try clear hb); (try clear hb2); (try clear hk); (try clear hi)))
           go_roundg k1
           case measure => have := HK1.out; omega
           case rel => exact ⟨(wrap64 (x26_1 + 1)), (by first | rfl | (simp; done) | (simp [*]; done)), H', ⟨by have := HK1.out; omega⟩, ⟨by (with_reducible repeat (first | refine zN ?_ _ | refine zD ?_ | refine zA ?_ _)); exact BK344.out⟩, ⟨by repeat (first | (with_reducible first | exact HB.out | apply yA | apply yN | apply yD | refine yS ?_ GE344.out | refine yS ?_ GE349.out) | exact HB.out)⟩⟩
         ·rw [if_neg c20] at H
          exact absurd H (by simp)
        ·rw [if_neg c18] at H
         exact absurd H (by simp)
       ·rw [if_neg c17] at H
        exact absurd H (by simp)
      ·rw [if_neg c16] at H
       have c16b0 : decide (x26_1 < (l0.length : Int)) = false := decide_eq_false c16
       clear c16
       obtain rfl := Option.some.inj H
       simp only [Option.some.injEq, Prod.mk.injEq] at H
       obtain ⟨rfl⟩ := H
       go_wp2
       go_ret
       exact ⟨by first | rfl | (simp [errW_none, errW_some] <;> rfl) | (simp [*, errW_none, errW_some] <;> rfl), by repeat (first | (with_reducible first | exact HB.out | apply yA | apply yN | apply yD | refine yS ?_ GE344.out) | exact HB.out)⟩
   ·rw [if_neg c9] at H
    have c9b0 : (t347 == 0) = false := beq_eq_false_iff_ne.mpr c9
    have c9b1 : (t347 != 0) = true := bne_iff_ne.mpr c9
    obtain rfl := Option.some.inj H
    simp only [Option.some.injEq, Prod.mk.injEq] at H
    obtain ⟨rfl⟩ := H
    go_enter Tryz.func15, Tryz.ntmps15
    go_wp2_with (first | ((with_reducible refine gate_dst (N := 3) rfl ?_); refine box_event ?hg (N := 3) ?hd (cs := #[.int .i64 a1_0, .int .i64 a1_1, .int .i64 a1_2, .int .i64 a1_3, .int .i64 a1_4, .int .i64 a1_5]) (t := 26) ?hr ?_; (case hd => rfl); (case hg => rfl); (case hr => first | (go_simp; done) | (go_simp; rfl)); intro gb344 hg w35 hbox hb; have ⟨n0_, n2_⟩ := zV (w := w) hb hg (by repeat (first | (with_reducible first | exact HB.out | apply yA | apply yN | apply yD) | exact HB.out)); have n1_ := aK (hbox); have n3_ := n2_; clear HB; have HB := n0_; have BK344 := n1_; have GW344 := n2_; have GE344 := n3_; clear n0_ n1_ n2_ n3_; clear hb hbox hg; have hcz36_0 := zI BK344 0 rfl; have hcz36_1 := zI BK344 1 rfl; have hcz36_2 := zI BK344 2 rfl; have hcz36_3 := zI BK344 3 rfl; have hcz36_4 := zI BK344 4 rfl; have hcz36_5 := zI BK344 5 rfl; have hfz36_0 := zF BK344.out 0; have hfz36_1 := zF BK344.out 1; have hfz36_2 := zF BK344.out 2; have hfz36_3 := zF BK344.out 3; have hfz36_4 := zF BK344.out 4; have hfz36_5 := zF BK344.out 5) | ((with_reducible refine gate_callee (f := 39) rfl ?_); refine goesL_ (some 13) rfl rfl Tryz.func39 (by kernel_rfl) rfl #[.agg #[.int .i64 a1_0, .int .i64 a1_1, .int .i64 a1_2, .int .i64 a1_3, .int .i64 a1_4, .int .i64 a1_5]] rfl (by (try simp only [List.map_toArray, List.map_cons, List.map_nil]); first | done | rfl | (simp only [List.length_drop, List.length_take]; rfl)) ?_; (with_reducible refine (box_Check.calls a1_0 a1_1 a1_2 a1_3 a1_4 a1_5 t345 _ A5.out).mono ?_); rintro e w37 ⟨rfl, hb⟩; refine ⟨_, rfl, ?_⟩; have n0_ := zG BK344 hb (fun h => by (with_reducible repeat (first | refine zN ?_ _ | refine zD ?_ | refine zA ?_ _)); exact h); have n1_ := aK (yT (by repeat (first | (with_reducible first | exact HB.out | apply yA | apply yN | apply yD | refine yS ?_ GE344.out) | exact HB.out)) hb); clear BK344; clear HB; have BK344 := n0_; have HB := n1_; clear n0_ n1_; (try clear hb); (try clear hb2); (try clear hk); (try clear hi); have hcz38_0 := zI BK344 0 rfl; have hcz38_1 := zI BK344 1 rfl; have hcz38_2 := zI BK344 2 rfl; have hcz38_3 := zI BK344 3 rfl; have hcz38_4 := zI BK344 4 rfl; have hcz38_5 := zI BK344 5 rfl; have hfz38_0 := zF BK344.out 0; have hfz38_1 := zF BK344.out 1; have hfz38_2 := zF BK344.out 2; have hfz38_3 := zF BK344.out 3; have hfz38_4 := zF BK344.out 4; have hfz38_5 := zF BK344.out 5) | ((with_reducible refine gate_callee (f := 41) rfl ?_); refine goesL_ (some 19) rfl rfl Tryz.func41 (by kernel_rfl) rfl #[.agg #[.int .i64 a1_0, .int .i64 a1_1, .int .i64 a1_2, .int .i64 a1_3, .int .i64 a1_4, .int .i64 a1_5]] rfl (by (try simp only [List.map_toArray, List.map_cons, List.map_nil]); first | done | rfl | (simp only [List.length_drop, List.length_take]; rfl)) ?_; (with_reducible refine (boring_within.calls a1_0 a1_1 a1_2 a1_3 a1_4 a1_5 t346 _ A7.out).mono ?_); rintro e w39 ⟨vft346, rfl, ⟨gft346, lft346, rfl, eft346, hpt346⟩, hb⟩; refine ⟨_, rfl, ?_⟩; have HFt346 := aK (show FnET Tryz.prog (.slice gft346 5 5) t346 w39 from ⟨gft346, lft346, rfl, eft346, hpt346⟩); clear hpt346; have HBt346 := aK (Below.refl w39.heap.size w39); have n0_ := zG BK344 hb (fun h => by (with_reducible repeat (first | refine zN ?_ _ | refine zD ?_ | refine zA ?_ _)); exact h); have n1_ := aK (yT (by repeat (first | (with_reducible first | exact HB.out | apply yA | apply yN | apply yD | refine yS ?_ GE344.out) | exact HB.out)) hb); clear BK344; clear HB; have BK344 := n0_; have HB := n1_; clear n0_ n1_; (try clear hb); (try clear hb2); (try clear hk); (try clear hi)) | ((with_reducible refine gate_callee (f := 40) rfl ?_); refine goesL_ (some 20) rfl rfl Tryz.func40 (by kernel_rfl) rfl #[.slice A0 l0.length c0, .slice gft346 5 5] rfl (by (try simp only [List.map_toArray, List.map_cons, List.map_nil]); first | done | rfl | (simp only [List.length_drop, List.length_take]; rfl)) ?_; (with_reducible refine (boring_first.calls _ _ l0 (.slice gft346 5 5) t346 t347 _ ?side1 ?side2 ?side3 A8.out).mono ?_); (case side1 => repeat (first | exact (Kd.C_below HR0.out HB.out) | (with_reducible refine Kd.C_alloc ?_ _) | (with_reducible refine Kd.C_drewN ?_ _) | (with_reducible refine Kd.C_drew ?_))); (case side2 => exact HC0.out); (case side3 => exact FnET.below HFt346.out (by repeat (first | (with_reducible first | exact HBt346.out | apply yA | apply yN | apply yD) | exact HBt346.out))); rintro e w40 ⟨rfl, hb⟩; refine ⟨_, rfl, ?_⟩; have n0_ := zG BK344 hb (fun h => by (with_reducible repeat (first | refine zN ?_ _ | refine zD ?_ | refine zA ?_ _)); exact h); have n1_ := aK (yT (by repeat (first | (with_reducible first | exact HBt346.out | apply yA | apply yN | apply yD) | exact HBt346.out)) hb); have n2_ := aK (yT (by repeat (first | (with_reducible first | exact HB.out | apply yA | apply yN | apply yD | refine yS ?_ GE344.out) | exact HB.out)) hb); clear BK344; clear HBt346; clear HB; have BK344 := n0_; have HBt346 := n1_; have HB := n2_; clear n0_ n1_ n2_; (try clear hb); (try clear hb2); (try clear hk); (try clear hi)))
    go_ret
    exact ⟨by first | rfl | (simp [errW_none, errW_some] <;> rfl) | (simp [*, errW_none, errW_some] <;> rfl), by repeat (first | (with_reducible first | exact HB.out | apply yA | apply yN | apply yD | refine yS ?_ GE344.out) | exact HB.out)⟩
  ·rw [if_neg c6] at H
   have c6b0 : (t345 == 0) = false := beq_eq_false_iff_ne.mpr c6
   have c6b1 : (t345 != 0) = true := bne_iff_ne.mpr c6
   obtain rfl := Option.some.inj H
   simp only [Option.some.injEq, Prod.mk.injEq] at H
   obtain ⟨rfl⟩ := H
   go_enter Tryz.func15, Tryz.ntmps15
   go_wp2_with (first | ((with_reducible refine gate_dst (N := 3) rfl ?_); refine box_event ?hg (N := 3) ?hd (cs := #[.int .i64 a1_0, .int .i64 a1_1, .int .i64 a1_2, .int .i64 a1_3, .int .i64 a1_4, .int .i64 a1_5]) (t := 26) ?hr ?_; (case hd => rfl); (case hg => rfl); (case hr => first | (go_simp; done) | (go_simp; rfl)); intro gb344 hg w41 hbox hb; have ⟨n0_, n2_⟩ := zV (w := w) hb hg (by repeat (first | (with_reducible first | exact HB.out | apply yA | apply yN | apply yD) | exact HB.out)); have n1_ := aK (hbox); have n3_ := n2_; clear HB; have HB := n0_; have BK344 := n1_; have GW344 := n2_; have GE344 := n3_; clear n0_ n1_ n2_ n3_; clear hb hbox hg; have hcz42_0 := zI BK344 0 rfl; have hcz42_1 := zI BK344 1 rfl; have hcz42_2 := zI BK344 2 rfl; have hcz42_3 := zI BK344 3 rfl; have hcz42_4 := zI BK344 4 rfl; have hcz42_5 := zI BK344 5 rfl; have hfz42_0 := zF BK344.out 0; have hfz42_1 := zF BK344.out 1; have hfz42_2 := zF BK344.out 2; have hfz42_3 := zF BK344.out 3; have hfz42_4 := zF BK344.out 4; have hfz42_5 := zF BK344.out 5) | ((with_reducible refine gate_callee (f := 39) rfl ?_); refine goesL_ (some 13) rfl rfl Tryz.func39 (by kernel_rfl) rfl #[.agg #[.int .i64 a1_0, .int .i64 a1_1, .int .i64 a1_2, .int .i64 a1_3, .int .i64 a1_4, .int .i64 a1_5]] rfl (by (try simp only [List.map_toArray, List.map_cons, List.map_nil]); first | done | rfl | (simp only [List.length_drop, List.length_take]; rfl)) ?_; (with_reducible refine (box_Check.calls a1_0 a1_1 a1_2 a1_3 a1_4 a1_5 t345 _ A5.out).mono ?_); rintro e w43 ⟨rfl, hb⟩; refine ⟨_, rfl, ?_⟩; have n0_ := zG BK344 hb (fun h => by (with_reducible repeat (first | refine zN ?_ _ | refine zD ?_ | refine zA ?_ _)); exact h); have n1_ := aK (yT (by repeat (first | (with_reducible first | exact HB.out | apply yA | apply yN | apply yD | refine yS ?_ GE344.out) | exact HB.out)) hb); clear BK344; clear HB; have BK344 := n0_; have HB := n1_; clear n0_ n1_; (try clear hb); (try clear hb2); (try clear hk); (try clear hi)))
   go_ret
   exact ⟨by first | rfl | (simp [errW_none, errW_some] <;> rfl) | (simp [*, errW_none, errW_some] <;> rfl), by repeat (first | (with_reducible first | exact HB.out | apply yA | apply yN | apply yD | refine yS ?_ GE344.out) | exact HB.out)⟩

def boring_Normal.f (k : Nat) (a0_0 : ByteArray) (a0_1 : Int) (a0_2 : Int) (l0_3 : List (S48)) : Option (ByteArray × Int × Int × (List (S48)) × Int) := (boring_formed.f a0_0 a0_1 a0_2 l0_3).bind fun t357 => (if t357 = 0 then ((boring_joined.f k l0_3).bind fun t358 => (some (a0_0, a0_1, a0_2, t358, 0))) else (some ((⟨#[]⟩ : ByteArray), 0, 0, ([] : List (S48)), t357)))
theorem boring_Normal.mono : ∀ a0 a1 a2 a3 k, LeO (boring_Normal.f k a0 a1 a2 a3) (boring_Normal.f (k + 1) a0 a1 a2 a3) := by
 intro a0 a1 a2 a3 k
 unfold boring_Normal.f
 repeat' first
   | (with_reducible exact boring_joined.mono _ _)
   | (with_reducible refine contains3.mono2 (fun x_ => ?_))
   | (with_reducible refine contains33.mono2 (fun x_ => ?_))
   | (with_reducible refine contains48.mono2 (fun x_ => ?_))
   | (with_reducible refine contains9.mono2 (fun x_ => ?_))
   | (with_reducible refine index3.mono2 (fun x_ => ?_))
   | (with_reducible refine index33.mono2 (fun x_ => ?_))
   | (with_reducible refine index48.mono2 (fun x_ => ?_))
   | (with_reducible refine index9.mono2 (fun x_ => ?_))
   | (with_reducible exact LeO.refl _)
   | (with_reducible exact LeO.none _)
   | (with_reducible refine LeO.ite ?_ ?_)
   | (with_reducible refine LeO.bind ?_ (fun _ => ?_))
   | exact boring_joined.mono _ _
   | exact LeO.none _
   | refine LeO.ite ?_ ?_
   | refine LeO.bind ?_ (fun _ => ?_)
end Go.Proofs.YtfedmcehkpfciaaGreat.P
