/- What functions of the program return: each contract says so of one function, for every input at which its pure function yields. -/
import Derived.Test.YtpfggghpkdnppaaPx0
import Derived.Test.YtpfggghpkdnppaaPx1
import Derived.Test.YtpfggghpkdnppaaPx6
import Derived.Test.YtpfggghpkdnppaaSm
namespace Go.Proofs.Ytpfggghpkdnppaa.P
open Go.RowKit Go.Proofs.YtpfggghpkdnppaaW.PrintWords Go.Proofs.YtpfggghpkdnppaaW.PrintLast Go.Proofs.YtpfggghpkdnppaaW.PrintMore
attribute [local go_sem] max2_int min2_int max_two min_two max_three min_three max_four min_four   -- for this text's walks alone
set_option linter.unusedVariables false
set_option linter.unusedSimpArgs false

open Go.Proofs.Ytpfggghpkdnppaa.Sm
mutual
def machine_Load.l0 : Nat → List (S34) → List (S47) → List (S34) → Int → Int → (Sm.SM ByteArray Int) → Option (List Int × Int)
 | 0, _, _, _, _, _, _ => none
 | k + 1, x0, x1, x24, x25, x26, x171000 => if x26 < x25 then (if 0 ≤ x26 then (if x26 < (x24.length : Int) then ((machine_can_N.f x0 ((rd_T34 x24 x26).f1)).bind fun t173 => (if (t173.length : Int) = 1 then (machine_Load.l0 k x0 x1 x24 x25 (wrap64 (x26 + 1)) (x171000.put ((rd_T34 x24 x26).f1) x26)) else (machine_Load.l0 k x0 x1 x24 x25 (wrap64 (x26 + 1)) x171000))) else (none)) else (none)) else (if 0 ≤ (x0.length : Int) then (if ((x0.length : Int) : Int).toNat ≤ 35184372088832 then (machine_Load.l1 k (List.replicate ((x0.length : Int) : Int).toNat 0) x1 (x1.length : Int) 0 x171000) else (none)) else (none))
def machine_Load.l1 : Nat → List Int → List (S47) → Int → Int → (Sm.SM ByteArray Int) → Option (List Int × Int)
 | 0, _, _, _, _, _ => none
 | k + 1, x10, x45, x46, x47, x171000 => if x47 < x46 then (if 0 ≤ x47 then (if x47 < (x45.length : Int) then (machine_Load.l2 k x10 x45 x46 x47 ((rd_T47 x45 x47).f1) (((rd_T47 x45 x47).f1).length : Int) 0 x171000) else (none)) else (none)) else (some (x10, 0))
def machine_Load.l2 : Nat → List Int → List (S47) → Int → Int → List (S36) → Int → Int → (Sm.SM ByteArray Int) → Option (List Int × Int)
 | 0, _, _, _, _, _, _, _, _ => none
 | k + 1, x10, x45, x46, x47, x52, x53, x54, x171000 => if x54 < x53 then (if 0 ≤ x54 then (if x54 < (x52.length : Int) then (if (x171000.has ((rd_T36 x52 x54).f0)) = true then (if 0 ≤ (x171000.at_ ((rd_T36 x52 x54).f0) 0) then (if (x171000.at_ ((rd_T36 x52 x54).f0) 0) < (x10.length : Int) then (machine_Load.l2 k (x10.set ((x171000.at_ ((rd_T36 x52 x54).f0) 0) : Int).toNat (wrap64 ((rd x10 (x171000.at_ ((rd_T36 x52 x54).f0) 0)) + ((rd_T36 x52 x54).f1)))) x45 x46 x47 x52 x53 (wrap64 (x54 + 1)) x171000) else (none)) else (none)) else (machine_Load.l2 k x10 x45 x46 x47 x52 x53 (wrap64 (x54 + 1)) x171000)) else (none)) else (none)) else (machine_Load.l1 k x10 x45 x46 (wrap64 (x47 + 1)) x171000)
end
def machine_Load.f (k : Nat) (l0 : List (S34)) (l1 : List (S47)) : Option (List Int × Int) := (machine_CheckJobs.f k l0 l1).bind fun t169 => (if t169 = 0 then (machine_Load.l0 k l0 l1 l0 (l0.length : Int) 0 Sm.SM.new) else (some (([] : List Int), t169)))
def machine_Load.T20 : Bool × List (List Nat × List Nat) := (true, [([], []), ([], []), ([0, 1], [0, 1]), ([2], [2]), ([], []), ([4], [4]), ([3, 5], [3, 5]), ([0, 1, 0, 1, 2, 3, 4, 5, 6], [0, 1]), ([7, 6, 0, 1, 2, 3, 4, 5, 6], [6, 7])])
def machine_Load.B20 : List Nat := [0, 0, 3, 7, 0, 16, 63, 127, 255]
theorem machine_Load.tab20 : rtab .any (opsOf Try.f17 20) = machine_Load.T20 := by kernel_rfl
theorem machine_Load.bits20 : waitsOk machine_Load.T20.2 machine_Load.B20 = true := by kernel_rfl
set_option maxHeartbeats 8000000 in
set_option maxRecDepth 100000 in
theorem machine_Load.calls (k : Nat) (A0 : Option Addr) (c0 : Nat) (l0 : List (S34)) (A1 : Option Addr) (c1 : Nat) (l1 : List (S47)) (r1 : List Int) (r2 : Int) (w : World) (hr0 : Kd.C k34 w A0 l0.length l0) (hc0 : l0.length ≤ c0) (hr1 : Kd.C k47 w A1 l1.length l1) (hc1 : l1.length ≤ c1) (h : machine_Load.f k l0 l1 = some (r1, r2)) :
  Calls Try.prog 17 #[.slice A0 l0.length c0, .slice A1 l1.length c1] w fun e w' => ∃ v0_ : Value, e = .returned (.tuple #[v0_, .int .i64 r2]) ∧ Kd.R (Kd.int .i64) 3 w' w.heap.size (fun _ => True) v0_ r1 ∧ Below w.heap.size w w' := by
 have hu34 := Try.underlying34
 have hu47 := Try.underlying47
 have hu36 := Try.underlying36
 have HR0 := Aside0.mk hr0
 have HC0 := Aside0.mk hc0
 clear hr0 hc0
 have HR1 := Aside0.mk hr1
 have HC1 := Aside0.mk hc1
 clear hr1 hc1
 have HB := Aside0.mk (Below.refl w.heap.size w)
 have H : ((machine_CheckJobs.f k l0 l1).bind fun t169 => (if t169 = 0 then (machine_Load.l0 k l0 l1 l0 (l0.length : Int) 0 Sm.SM.new) else (some (([] : List Int), t169)))) = some (r1, r2) := h
 clear h
 replace H := Option.bind_eq_some_iff.mp H
 obtain ⟨t169, A30, H⟩ := H
 replace H : (if t169 = 0 then (machine_Load.l0 k l0 l1 l0 (l0.length : Int) 0 Sm.SM.new) else (some (([] : List Int), t169))) = some (r1, r2) := H
 have A3 := Aside0.mk A30
 clear A30
 by_cases c4 : t169 = 0
 ·rw [if_pos c4] at H
  have c4b0 : (t169 == 0) = true := beq_iff_eq.mpr c4
  have c4b1 : (t169 != 0) = false := bne_eq_false_iff_eq.mpr c4
  clear c4
  have H' := Aside0.mk H
  clear H

  go_enter Try.func17, Try.ntmps17
  go_wp2_with (first | ((with_reducible refine gate_callee (f := 24) rfl ?_); refine goesL_ (some 19) rfl rfl Try.func24 (by kernel_rfl) rfl #[.slice A0 l0.length c0, .slice A1 l1.length c1] rfl (by (try simp only [List.map_toArray, List.map_cons, List.map_nil]); first | done | rfl | (simp only [List.length_drop, List.length_take]; rfl)) ?_; (with_reducible refine (machine_CheckJobs.calls k _ _ l0 _ _ l1 t169 _ ?side1 ?side2 ?side3 ?side4 A3.out).mono ?_); (case side1 => repeat (first | exact HR0.out | (with_reducible refine Kd.C_alloc ?_ _) | (with_reducible refine Kd.C_drewN ?_ _) | (with_reducible refine Kd.C_drew ?_))); (case side2 => exact HC0.out); (case side3 => repeat (first | exact HR1.out | (with_reducible refine Kd.C_alloc ?_ _) | (with_reducible refine Kd.C_drewN ?_ _) | (with_reducible refine Kd.C_drew ?_))); (case side4 => exact HC1.out); rintro e w5 ⟨rfl, hb⟩; refine ⟨_, rfl, ?_⟩; have n0_ := Aside0.mk (below_step (by repeat (first | (with_reducible first | exact HB.out | apply below_alloc | apply pw_below_drewN | apply below_drew1) | exact HB.out)) hb); clear HB; have HB := n0_; clear n0_; (try clear hb); (try clear hb2); (try clear hk); (try clear hi)) | ((with_reducible refine gate_dst (N := 23) rfl ?_); refine Sm.newmap_event (κ := ByteArray) (β := Int) (ke := Value.string) (ve := (Value.int .i64)) rfl (N := 23) rfl (t := 59) rfl ?_; intro gb170 hg w6 hbox hb; have n0_ := Aside0.mk (below_step (by repeat (first | (with_reducible first | exact HB.out | apply below_alloc | apply pw_below_drewN | apply below_drew1) | exact HB.out)) hb); have n1_ := Aside0.mk (hbox); have n2_ := Aside0.mk ((by rw [hg]; exact (below_size (by repeat (first | (with_reducible first | exact HB.out | apply below_alloc | apply pw_below_drewN | apply below_drew1) | exact HB.out))) : w.heap.size ≤ gb170)); have n3_ := Aside0.mk ((by rw [hg]; exact (below_size (by repeat (first | (with_reducible first | exact HB.out | apply below_alloc | apply pw_below_drewN | apply below_drew1) | exact HB.out))) : w.heap.size ≤ gb170)); clear HB; have HB := n0_; have BK170 := n1_; have GW170 := n2_; have GE170 := n3_; clear n0_ n1_ n2_ n3_; clear hb hbox hg))
  go_loopg [26] k (fun kq v26 w' => ∃ (x26_1 : Int) (x171000_1 : (Sm.SM ByteArray Int)), v26 = .int .i64 x26_1 ∧ Aside0 (machine_Load.l0 kq l0 l1 l0 (l0.length : Int) x26_1 x171000_1 = some (r1, r2)) ∧ Aside0 (kq ≤ k) ∧ Aside0 (w'.heap[gb170]? = some (Sm.SM.obj Value.string (Value.int .i64) x171000_1)) ∧ Aside0 (Below w.heap.size w w'))
  case atStart => exact ⟨(0), (Sm.SM.new), (by first | rfl | (simp; done) | (simp [*]; done)), H', ⟨Nat.le_refl _⟩, ⟨by (with_reducible repeat (first | refine blk_drewN ?_ _ | refine blk_drew ?_ | refine blk_alloc ?_ _)); exact BK170.out⟩, ⟨by repeat (first | (with_reducible first | exact HB.out | apply below_alloc | apply pw_below_drewN | apply below_drew1 | refine below_set ?_ GE170.out) | exact HB.out)⟩⟩
  case round =>
   clear H'
   try clear c1
   try clear c2
   try clear p2
   try clear c4
   try clear c4b0
   try clear c4b1
   obtain ⟨x26_1, x171000_1, rfl, HA, HK1, BK170, HB⟩ := hrel
   cases gk with
   | zero => exact absurd HA.out (by simp [machine_Load.l0])
   | succ k1 =>
    have H := HA.out
    clear HA
    simp only [machine_Load.l0] at H
    by_cases c7 : x26_1 < (l0.length : Int)
    ·rw [if_pos c7] at H
     have c7b0 : decide (x26_1 < (l0.length : Int)) = true := decide_eq_true c7
     clear c7
     by_cases c8 : 0 ≤ x26_1
     ·rw [if_pos c8] at H
      have c8b0 : decide (0 ≤ x26_1) = true := decide_eq_true c8
      clear c8
      by_cases c9 : x26_1 < (l0.length : Int)
      ·rw [if_pos c9] at H
       have c9b0 : decide (x26_1 < (l0.length : Int)) = true := decide_eq_true c9
       clear c9
       replace H := Option.bind_eq_some_iff.mp H
       obtain ⟨t173, A100, H⟩ := H
       replace H : (if (t173.length : Int) = 1 then (machine_Load.l0 k1 l0 l1 l0 (l0.length : Int) (wrap64 (x26_1 + 1)) (x171000_1.put ((rd_T34 l0 x26_1).f1) x26_1)) else (machine_Load.l0 k1 l0 l1 l0 (l0.length : Int) (wrap64 (x26_1 + 1)) x171000_1)) = some (r1, r2) := H
       have A10 := Aside0.mk A100
       clear A100
       by_cases c11 : (t173.length : Int) = 1
       ·rw [if_pos c11] at H
        have c11b0 : ((t173.length : Int) == 1) = true := beq_iff_eq.mpr c11
        have c11b1 : ((t173.length : Int) != 1) = false := bne_eq_false_iff_eq.mpr c11
        clear c11
        have H' := Aside0.mk H
        clear H
        have p171 : 0 ≤ (x26_1 : Int) := of_decide_eq_true (by first | (with_reducible assumption) | assumption)
        have q171 : x26_1 < (l0.length : Int) := of_decide_eq_true (by first | (with_reducible assumption) | assumption)
        obtain ⟨ad171, e171, hx171_0, hx171_1, hx171_2⟩ := at_T34 HR0.out x26_1 p171 q171
        cases e171
        replace hx171_0 := (HB.out.cell (World.block_lt_of_cell? w _ hx171_0)).trans hx171_0
        replace hx171_1 := (HB.out.cell (World.block_lt_of_cell? w _ hx171_1)).trans hx171_1
        replace hx171_2 := (HB.out.cell (World.block_lt_of_cell? w _ hx171_2)).trans hx171_2
        replace p171 := eq_true p171
        replace q171 := eq_true q171
        go_wp2_with (first | ((with_reducible refine gate_dst (N := 9) rfl ?_); refine box_event ?hg (N := 9) ?hd (cs := #[.string (⟨#[]⟩ : ByteArray), .string (⟨#[]⟩ : ByteArray), .int .i64 0]) (t := 34) ?hr ?_; (case hd => rfl); (case hg => rfl); (case hr => first | (go_simp; done) | (go_simp; rfl)); intro gb172 hg w12 hbox hb; have n0_ := Aside0.mk (blk_below (g := gb170) (o := Sm.SM.obj Value.string (Value.int .i64) x171000_1) (by (with_reducible repeat (first | refine blk_drewN ?_ _ | refine blk_drew ?_ | refine blk_alloc ?_ _)); exact BK170.out) hb); have n1_ := Aside0.mk (below_step (by repeat (first | (with_reducible first | exact HB.out | apply below_alloc | apply pw_below_drewN | apply below_drew1 | refine below_set ?_ GE170.out) | exact HB.out)) hb); have n2_ := Aside0.mk (hbox); have n3_ := Aside0.mk ((by rw [hg]; exact (below_size (by repeat (first | (with_reducible first | exact HB.out | apply below_alloc | apply pw_below_drewN | apply below_drew1 | refine below_set ?_ GE170.out) | exact HB.out))) : w.heap.size ≤ gb172)); have n4_ := Aside0.mk ((by rw [hg]; exact (below_size (by repeat (first | (with_reducible first | exact HB.out | apply below_alloc | apply pw_below_drewN | apply below_drew1 | refine below_set ?_ GE170.out) | exact HB.out))) : w.heap.size ≤ gb172)); have n5_ := Aside0.mk ((by rw [hg]; exact Nat.ne_of_lt (blk_lt (g := gb170) (o := Sm.SM.obj Value.string (Value.int .i64) x171000_1) (by (with_reducible repeat (first | refine blk_drewN ?_ _ | refine blk_drew ?_ | refine blk_alloc ?_ _)); exact BK170.out)) : gb170 ≠ gb172)); have n6_ := Aside0.mk ((by rw [hg]; exact Nat.ne_of_gt (blk_lt (g := gb170) (o := Sm.SM.obj Value.string (Value.int .i64) x171000_1) (by (with_reducible repeat (first | refine blk_drewN ?_ _ | refine blk_drew ?_ | refine blk_alloc ?_ _)); exact BK170.out)) : gb172 ≠ gb170)); clear BK170; clear HB; have BK170 := n0_; have HB := n1_; have BK172 := n2_; have GW172 := n3_; have GE172 := n4_; have NB170_172 := n5_; have NB172_170 := n6_; clear n0_ n1_ n2_ n3_ n4_ n5_ n6_; clear hb hbox hg; have hnb13 := NB172_170.out; have hnc13 := NB170_172.out; have hcz14_0 : w12.cell? ⟨gb172, 0, none⟩ = some (.string (⟨#[]⟩ : ByteArray)) := (blk_cell BK172.out 0).trans rfl; have hcz14_1 : w12.cell? ⟨gb172, 1, none⟩ = some (.string (⟨#[]⟩ : ByteArray)) := (blk_cell BK172.out 1).trans rfl; have hcz14_2 : w12.cell? ⟨gb172, 2, none⟩ = some (.int .i64 0) := (blk_cell BK172.out 2).trans rfl; have hfz14_0 := blk_frozen BK172.out 0; have hfz14_1 := blk_frozen BK172.out 1; have hfz14_2 := blk_frozen BK172.out 2) | ((with_reducible refine gate_callee (f := 29) rfl ?_); refine goesL_ (some 34) rfl rfl Try.func29 (by kernel_rfl) rfl #[.slice (some ad171) l0.length c0, .string ((rd_T34 l0 x26_1).f1)] rfl (by (try simp only [List.map_toArray, List.map_cons, List.map_nil]); first | done | rfl | (simp only [List.length_drop, List.length_take]; rfl)) ?_; (with_reducible refine (machine_can_N.calls _ _ l0 ((rd_T34 l0 x26_1).f1) t173 _ ?side1 ?side2 A10.out).mono ?_); (case side1 => exact Kd.C_below HR0.out (by repeat (first | (with_reducible first | exact HB.out | apply below_alloc | apply pw_below_drewN | apply below_drew1 | refine below_set ?_ GE170.out | refine below_set ?_ GE172.out) | exact HB.out))); (case side2 => exact HC0.out); rintro e w15 ⟨v174, rfl, ho0, hb⟩; refine ⟨_, rfl, ?_⟩; have n0_ := Aside0.mk (Kd.R_lower ho0 (below_size (by repeat (first | (with_reducible first | exact HB.out | apply below_alloc | apply pw_below_drewN | apply below_drew1 | refine below_set ?_ GE170.out | refine below_set ?_ GE172.out) | exact HB.out)))); have n1_ := Aside0.mk (blk_below (g := gb170) (o := Sm.SM.obj Value.string (Value.int .i64) x171000_1) (by (with_reducible repeat (first | refine blk_drewN ?_ _ | refine blk_drew ?_ | refine blk_alloc ?_ _)); refine Sm.blk_farM ?_ NB170_172.out _; (with_reducible repeat (first | refine blk_drewN ?_ _ | refine blk_drew ?_ | refine blk_alloc ?_ _)); refine Sm.blk_farM ?_ NB170_172.out _; (with_reducible repeat (first | refine blk_drewN ?_ _ | refine blk_drew ?_ | refine blk_alloc ?_ _)); refine Sm.blk_farM ?_ NB170_172.out _; (with_reducible repeat (first | refine blk_drewN ?_ _ | refine blk_drew ?_ | refine blk_alloc ?_ _)); exact BK170.out) hb); have n2_ := Aside0.mk (blk_below (g := gb172) (o := .cells #[.string ((rd_T34 l0 x26_1).f0), .string ((rd_T34 l0 x26_1).f1), .int .i64 ((rd_T34 l0 x26_1).f2)] 34 (0, 0)) (by (with_reducible repeat (first | refine blk_drewN ?_ _ | refine blk_drew ?_ | refine blk_alloc ?_ _)); refine blk_put (cs := #[.string ((rd_T34 l0 x26_1).f0), .string ((rd_T34 l0 x26_1).f1), .int .i64 0]) ?_ 2 _ rfl; (with_reducible repeat (first | refine blk_drewN ?_ _ | refine blk_drew ?_ | refine blk_alloc ?_ _)); refine blk_put (cs := #[.string ((rd_T34 l0 x26_1).f0), .string (⟨#[]⟩ : ByteArray), .int .i64 0]) ?_ 1 _ rfl; (with_reducible repeat (first | refine blk_drewN ?_ _ | refine blk_drew ?_ | refine blk_alloc ?_ _)); refine blk_put (cs := #[.string (⟨#[]⟩ : ByteArray), .string (⟨#[]⟩ : ByteArray), .int .i64 0]) ?_ 0 _ rfl; (with_reducible repeat (first | refine blk_drewN ?_ _ | refine blk_drew ?_ | refine blk_alloc ?_ _)); exact BK172.out) hb); have n3_ := Aside0.mk (below_step (by repeat (first | (with_reducible first | exact HB.out | apply below_alloc | apply pw_below_drewN | apply below_drew1 | refine below_set ?_ GE170.out | refine below_set ?_ GE172.out) | exact HB.out)) hb); clear BK170; clear BK172; clear HB; have HO175 := n0_; have BK170 := n1_; have BK172 := n2_; have HB := n3_; clear n0_ n1_ n2_ n3_; (try clear hb); (try clear hb2); (try clear hk); (try clear hi); (try clear ho0); obtain ⟨Ao16, co16, eo16⟩ := Kd.R_slice HO175.out; subst eo16; have hcz17_0 : w15.cell? ⟨gb172, 0, none⟩ = some (.string ((rd_T34 l0 x26_1).f0)) := (blk_cell BK172.out 0).trans rfl; have hcz17_1 : w15.cell? ⟨gb172, 1, none⟩ = some (.string ((rd_T34 l0 x26_1).f1)) := (blk_cell BK172.out 1).trans rfl; have hcz17_2 : w15.cell? ⟨gb172, 2, none⟩ = some (.int .i64 ((rd_T34 l0 x26_1).f2)) := (blk_cell BK172.out 2).trans rfl; have hfz17_0 := blk_frozen BK172.out 0; have hfz17_1 := blk_frozen BK172.out 1; have hfz17_2 := blk_frozen BK172.out 2) | ((with_reducible refine gate_ (.mapUpdate 59 (.tmp 37) (.tmp 39) (.tmp 40)) rfl ?_); refine Sm.mput_event (κ := ByteArray) (β := Int) (ke := Value.string) (ve := (Value.int .i64)) (m := x171000_1) (.tmp 37) (.tmp 39) (.tmp 40) rfl rfl rfl Try.underlying59 (Sm.SM.key_str Try.underlying9) ((rd_T34 l0 x26_1).f1) x26_1 (by first | rfl | (go_simp; done) | (go_simp; rfl)) (by first | rfl | (go_simp; done) | (go_simp; rfl)) (by first | rfl | (go_simp; done) | (go_simp; rfl)) (by (with_reducible repeat (first | refine blk_drewN ?_ _ | refine blk_drew ?_ | refine blk_alloc ?_ _)); exact BK170.out) ?_; intro w18 hbox hg; have hk := Sm.keepBut_map hg; have n0_ := Aside0.mk (hbox); have n1_ := Aside0.mk (KeepBut.blk hk (g' := gb172) (o := .cells #[.string ((rd_T34 l0 x26_1).f0), .string ((rd_T34 l0 x26_1).f1), .int .i64 ((rd_T34 l0 x26_1).f2)] 34 (0, 0)) (by (with_reducible repeat (first | refine blk_drewN ?_ _ | refine blk_drew ?_ | refine blk_alloc ?_ _)); exact BK172.out) NB172_170.out (by simp)); have n2_ := Aside0.mk (Kd.R_mono (Kd.R_keep (Kd.R_typesM (by (with_reducible repeat (first | apply Kd.R_alloc | apply Kd.R_drewN | apply Kd.R_drew)); exact HO175.out) (by (with_reducible repeat (first | refine blk_drewN ?_ _ | refine blk_drew ?_ | refine blk_alloc ?_ _)); exact BK170.out)) hk (fun _ h => h.2)) (fun _ h => h.1)); have n3_ := Aside0.mk (Sm.below_map (by repeat (first | (with_reducible first | exact HB.out | apply below_alloc | apply pw_below_drewN | apply below_drew1 | refine below_set ?_ GE170.out | refine below_set ?_ GE172.out) | exact HB.out)) hg (below_size (by repeat (first | (with_reducible first | exact HB.out | apply below_alloc | apply pw_below_drewN | apply below_drew1 | refine below_set ?_ GE170.out | refine below_set ?_ GE172.out) | exact HB.out))) GW170.out); clear BK170; clear BK172; clear HO175; clear HB; have BK170 := n0_; have BK172 := n1_; have HO175 := n2_; have HB := n3_; clear n0_ n1_ n2_ n3_; clear hbox hg hk))
        go_roundg k1
        case measure => have := HK1.out; omega
        case rel => exact ⟨(wrap64 (x26_1 + 1)), ((x171000_1.put ((rd_T34 l0 x26_1).f1) x26_1)), (by first | rfl | (simp; done) | (simp [*]; done)), H', ⟨by have := HK1.out; omega⟩, ⟨by (with_reducible repeat (first | refine blk_drewN ?_ _ | refine blk_drew ?_ | refine blk_alloc ?_ _)); exact BK170.out⟩, ⟨by repeat (first | (with_reducible first | exact HB.out | apply below_alloc | apply pw_below_drewN | apply below_drew1 | refine below_set ?_ GE170.out | refine below_set ?_ GE172.out) | exact HB.out)⟩⟩
       ·rw [if_neg c11] at H
        have c11b0 : ((t173.length : Int) == 1) = false := beq_eq_false_iff_ne.mpr c11
        have c11b1 : ((t173.length : Int) != 1) = true := bne_iff_ne.mpr c11
        have H' := Aside0.mk H
        clear H
        have p171 : 0 ≤ (x26_1 : Int) := of_decide_eq_true (by first | (with_reducible assumption) | assumption)
        have q171 : x26_1 < (l0.length : Int) := of_decide_eq_true (by first | (with_reducible assumption) | assumption)
        obtain ⟨ad171, e171, hx171_0, hx171_1, hx171_2⟩ := at_T34 HR0.out x26_1 p171 q171
        cases e171
        replace hx171_0 := (HB.out.cell (World.block_lt_of_cell? w _ hx171_0)).trans hx171_0
        replace hx171_1 := (HB.out.cell (World.block_lt_of_cell? w _ hx171_1)).trans hx171_1
        replace hx171_2 := (HB.out.cell (World.block_lt_of_cell? w _ hx171_2)).trans hx171_2
        replace p171 := eq_true p171
        replace q171 := eq_true q171
        go_wp2_with (first | ((with_reducible refine gate_dst (N := 9) rfl ?_); refine box_event ?hg (N := 9) ?hd (cs := #[.string (⟨#[]⟩ : ByteArray), .string (⟨#[]⟩ : ByteArray), .int .i64 0]) (t := 34) ?hr ?_; (case hd => rfl); (case hg => rfl); (case hr => first | (go_simp; done) | (go_simp; rfl)); intro gb172 hg w19 hbox hb; have n0_ := Aside0.mk (blk_below (g := gb170) (o := Sm.SM.obj Value.string (Value.int .i64) x171000_1) (by (with_reducible repeat (first | refine blk_drewN ?_ _ | refine blk_drew ?_ | refine blk_alloc ?_ _)); exact BK170.out) hb); have n1_ := Aside0.mk (below_step (by repeat (first | (with_reducible first | exact HB.out | apply below_alloc | apply pw_below_drewN | apply below_drew1 | refine below_set ?_ GE170.out) | exact HB.out)) hb); have n2_ := Aside0.mk (hbox); have n3_ := Aside0.mk ((by rw [hg]; exact (below_size (by repeat (first | (with_reducible first | exact HB.out | apply below_alloc | apply pw_below_drewN | apply below_drew1 | refine below_set ?_ GE170.out) | exact HB.out))) : w.heap.size ≤ gb172)); have n4_ := Aside0.mk ((by rw [hg]; exact (below_size (by repeat (first | (with_reducible first | exact HB.out | apply below_alloc | apply pw_below_drewN | apply below_drew1 | refine below_set ?_ GE170.out) | exact HB.out))) : w.heap.size ≤ gb172)); have n5_ := Aside0.mk ((by rw [hg]; exact Nat.ne_of_lt (blk_lt (g := gb170) (o := Sm.SM.obj Value.string (Value.int .i64) x171000_1) (by (with_reducible repeat (first | refine blk_drewN ?_ _ | refine blk_drew ?_ | refine blk_alloc ?_ _)); exact BK170.out)) : gb170 ≠ gb172)); have n6_ := Aside0.mk ((by rw [hg]; exact Nat.ne_of_gt (blk_lt (g := gb170) (o := Sm.SM.obj Value.string (Value.int .i64) x171000_1) (by (with_reducible repeat (first | refine blk_drewN ?_ _ | refine blk_drew ?_ | refine blk_alloc ?_ _)); exact BK170.out)) : gb172 ≠ gb170)); clear BK170; clear HB; have BK170 := n0_; have HB := n1_; have BK172 := n2_; have GW172 := n3_; have GE172 := n4_; have NB170_172 := n5_; have NB172_170 := n6_; clear n0_ n1_ n2_ n3_ n4_ n5_ n6_; clear hb hbox hg; have hnb20 := NB172_170.out; have hnc20 := NB170_172.out; have hcz21_0 : w19.cell? ⟨gb172, 0, none⟩ = some (.string (⟨#[]⟩ : ByteArray)) := (blk_cell BK172.out 0).trans rfl; have hcz21_1 : w19.cell? ⟨gb172, 1, none⟩ = some (.string (⟨#[]⟩ : ByteArray)) := (blk_cell BK172.out 1).trans rfl; have hcz21_2 : w19.cell? ⟨gb172, 2, none⟩ = some (.int .i64 0) := (blk_cell BK172.out 2).trans rfl; have hfz21_0 := blk_frozen BK172.out 0; have hfz21_1 := blk_frozen BK172.out 1; have hfz21_2 := blk_frozen BK172.out 2) | ((with_reducible refine gate_callee (f := 29) rfl ?_); refine goesL_ (some 34) rfl rfl Try.func29 (by kernel_rfl) rfl #[.slice (some ad171) l0.length c0, .string ((rd_T34 l0 x26_1).f1)] rfl (by (try simp only [List.map_toArray, List.map_cons, List.map_nil]); first | done | rfl | (simp only [List.length_drop, List.length_take]; rfl)) ?_; (with_reducible refine (machine_can_N.calls _ _ l0 ((rd_T34 l0 x26_1).f1) t173 _ ?side1 ?side2 A10.out).mono ?_); (case side1 => exact Kd.C_below HR0.out (by repeat (first | (with_reducible first | exact HB.out | apply below_alloc | apply pw_below_drewN | apply below_drew1 | refine below_set ?_ GE170.out | refine below_set ?_ GE172.out) | exact HB.out))); (case side2 => exact HC0.out); rintro e w22 ⟨v174, rfl, ho0, hb⟩; refine ⟨_, rfl, ?_⟩; have n0_ := Aside0.mk (Kd.R_lower ho0 (below_size (by repeat (first | (with_reducible first | exact HB.out | apply below_alloc | apply pw_below_drewN | apply below_drew1 | refine below_set ?_ GE170.out | refine below_set ?_ GE172.out) | exact HB.out)))); have n1_ := Aside0.mk (blk_below (g := gb170) (o := Sm.SM.obj Value.string (Value.int .i64) x171000_1) (by (with_reducible repeat (first | refine blk_drewN ?_ _ | refine blk_drew ?_ | refine blk_alloc ?_ _)); refine Sm.blk_farM ?_ NB170_172.out _; (with_reducible repeat (first | refine blk_drewN ?_ _ | refine blk_drew ?_ | refine blk_alloc ?_ _)); refine Sm.blk_farM ?_ NB170_172.out _; (with_reducible repeat (first | refine blk_drewN ?_ _ | refine blk_drew ?_ | refine blk_alloc ?_ _)); refine Sm.blk_farM ?_ NB170_172.out _; (with_reducible repeat (first | refine blk_drewN ?_ _ | refine blk_drew ?_ | refine blk_alloc ?_ _)); exact BK170.out) hb); have n2_ := Aside0.mk (blk_below (g := gb172) (o := .cells #[.string ((rd_T34 l0 x26_1).f0), .string ((rd_T34 l0 x26_1).f1), .int .i64 ((rd_T34 l0 x26_1).f2)] 34 (0, 0)) (by (with_reducible repeat (first | refine blk_drewN ?_ _ | refine blk_drew ?_ | refine blk_alloc ?_ _)); refine blk_put (cs := #[.string ((rd_T34 l0 x26_1).f0), .string ((rd_T34 l0 x26_1).f1), .int .i64 0]) ?_ 2 _ rfl; (with_reducible repeat (first | refine blk_drewN ?_ _ | refine blk_drew ?_ | refine blk_alloc ?_ _)); refine blk_put (cs := #[.string ((rd_T34 l0 x26_1).f0), .string (⟨#[]⟩ : ByteArray), .int .i64 0]) ?_ 1 _ rfl; (with_reducible repeat (first | refine blk_drewN ?_ _ | refine blk_drew ?_ | refine blk_alloc ?_ _)); refine blk_put (cs := #[.string (⟨#[]⟩ : ByteArray), .string (⟨#[]⟩ : ByteArray), .int .i64 0]) ?_ 0 _ rfl; (with_reducible repeat (first | refine blk_drewN ?_ _ | refine blk_drew ?_ | refine blk_alloc ?_ _)); exact BK172.out) hb); have n3_ := Aside0.mk (below_step (by repeat (first | (with_reducible first | exact HB.out | apply below_alloc | apply pw_below_drewN | apply below_drew1 | refine below_set ?_ GE170.out | refine below_set ?_ GE172.out) | exact HB.out)) hb); clear BK170; clear BK172; clear HB; have HO175 := n0_; have BK170 := n1_; have BK172 := n2_; have HB := n3_; clear n0_ n1_ n2_ n3_; (try clear hb); (try clear hb2); (try clear hk); (try clear hi); (try clear ho0); obtain ⟨Ao23, co23, eo23⟩ := Kd.R_slice HO175.out; subst eo23))
        go_roundg k1
        case measure => have := HK1.out; omega
        case rel => exact ⟨(wrap64 (x26_1 + 1)), (x171000_1), (by first | rfl | (simp; done) | (simp [*]; done)), H', ⟨by have := HK1.out; omega⟩, ⟨by (with_reducible repeat (first | refine blk_drewN ?_ _ | refine blk_drew ?_ | refine blk_alloc ?_ _)); exact BK170.out⟩, ⟨by repeat (first | (with_reducible first | exact HB.out | apply below_alloc | apply pw_below_drewN | apply below_drew1 | refine below_set ?_ GE170.out | refine below_set ?_ GE172.out) | exact HB.out)⟩⟩
      ·rw [if_neg c9] at H
       exact absurd H (by simp)
     ·rw [if_neg c8] at H
      exact absurd H (by simp)
    ·rw [if_neg c7] at H
     have c7b0 : decide (x26_1 < (l0.length : Int)) = false := decide_eq_false c7
     clear c7
     by_cases c24 : 0 ≤ (l0.length : Int)
     ·rw [if_pos c24] at H
      have c24b0 := eq_true c24
      have c24b1 : decide (0 ≤ (l0.length : Int)) = true := decide_eq_true c24
      clear c24
      by_cases c25 : ((l0.length : Int) : Int).toNat ≤ 35184372088832
      ·rw [if_pos c25] at H
       have c25b0 := eq_true c25
       have c25b1 : decide (((l0.length : Int) : Int).toNat ≤ 35184372088832) = true := decide_eq_true c25
       clear c25
       obtain ⟨y176, hy176⟩ : ∃ y_ : List Int, y_ = (List.replicate ((l0.length : Int) : Int).toNat 0) := ⟨_, rfl⟩
       replace H : (machine_Load.l1 k1 y176 l1 (l1.length : Int) 0 x171000_1) = some (r1, r2) := by first | (rw [hy176]; with_reducible exact H) | (have H2_ := (Option.bind_some _ _).symm.trans H; rw [hy176]; with_reducible exact H2_) | (have H2_ := (Option.bind_some _ _).symm.trans H; with_reducible exact H2_) | with_reducible exact H | (rw [hy176]; exact H) | exact H
       have Ny176 := Aside0.mk hy176
       clear hy176
       have H' := Aside0.mk H
       clear H
       go_wp2_with (first | ((with_reducible refine gate_dst (N := 44) rfl ?_); refine Kd.R_make (Kd.int .i64) _ 3 rfl (N := 44) rfl 25 _ _ rfl (l0.length : Int) rfl rfl Try.underlying25 (.int .i64 0) 8 info3 rfl (by decide) (by omega) 0 (ok := fun _ => True) (okp := fun _ => True) rfl (fun _ hk => hk) trivial (of_decide_eq_true (by first | (with_reducible assumption) | assumption)) (Nat.le_trans (Nat.mul_le_mul_right _ (of_decide_eq_true (by first | (with_reducible assumption) | assumption) : (l0.length : Int).toNat ≤ 35184372088832)) (by omega)) (Below.refl _ _) (Nat.le_refl _) ?_; intro v177 w26 ho27 hb hg_ hnew_; clear hg_ hnew_; (first | rw [← Ny176.out] at ho27 | (simp only [Int.reduceToNat] at ho27; rw [← Ny176.out] at ho27)); have n0_ := Aside0.mk (Kd.R_lower ho27 (below_size (by repeat (first | (with_reducible first | exact HB.out | apply below_alloc | apply pw_below_drewN | apply below_drew1 | refine below_set ?_ GE170.out) | exact HB.out)))); have n1_ := Aside0.mk (blk_below (g := gb170) (o := Sm.SM.obj Value.string (Value.int .i64) x171000_1) (by (with_reducible repeat (first | refine blk_drewN ?_ _ | refine blk_drew ?_ | refine blk_alloc ?_ _)); exact BK170.out) hb); have n2_ := Aside0.mk (below_step (by repeat (first | (with_reducible first | exact HB.out | apply below_alloc | apply pw_below_drewN | apply below_drew1 | refine below_set ?_ GE170.out) | exact HB.out)) hb); clear BK170; clear HB; have HO178 := n0_; have BK170 := n1_; have HB := n2_; clear n0_ n1_ n2_; clear hb ho27))
       go_loopg [47] k1 (fun kq v47 w' => ∃ (x10_2 : List Int) (x47_2 : Int), v47 = .int .i64 x47_2 ∧ Aside0 (machine_Load.l1 kq x10_2 l1 (l1.length : Int) x47_2 x171000_1 = some (r1, r2)) ∧ Aside0 (kq ≤ k1) ∧ Aside0 (Kd.R (Kd.int .i64) 3 w' w.heap.size (fun _ => True) v177 x10_2) ∧ Aside0 (w'.heap[gb170]? = some (Sm.SM.obj Value.string (Value.int .i64) x171000_1)) ∧ Aside0 (Below w.heap.size w w'))
       case atStart => exact ⟨(y176), (0), (by first | rfl | (simp; done) | (simp [*]; done)), H', ⟨Nat.le_refl _⟩, ⟨by (with_reducible repeat (first | apply Kd.R_alloc | apply Kd.R_drewN | apply Kd.R_drew)); exact HO178.out⟩, ⟨by (with_reducible repeat (first | refine blk_drewN ?_ _ | refine blk_drew ?_ | refine blk_alloc ?_ _)); exact BK170.out⟩, ⟨by repeat (first | (with_reducible first | exact HB.out | apply below_alloc | apply pw_below_drewN | apply below_drew1 | refine below_set ?_ GE170.out) | exact HB.out)⟩⟩
       case round =>
        clear H'
        try clear c1
        try clear p1
        try clear q1
        try clear hx1
        try clear c2
        try clear p2
        try clear c4
        try clear c4b0
        try clear c4b1
        try clear p6
        try clear c7
        try clear c7b0
        try clear c8
        try clear c8b0
        try clear c9
        try clear c9b0
        try clear c11
        try clear c11b0
        try clear c11b1
        try clear c13
        try clear c17
        try clear p17
        try clear q17
        try clear hx17
        try clear c20
        try clear c24
        try clear c24b0
        try clear c24b1
        try clear c25
        try clear c25b0
        try clear c25b1
        try clear hcz14_0
        try clear hcz14_1
        try clear hcz14_2
        try clear hcz17_0
        try clear hcz17_1
        try clear hcz17_2
        try clear hcz21_0
        try clear hcz21_1
        try clear hcz21_2
        try clear hfz14_0
        try clear hfz14_1
        try clear hfz14_2
        try clear hfz17_0
        try clear hfz17_1
        try clear hfz17_2
        try clear hfz21_0
        try clear hfz21_1
        try clear hfz21_2
        try clear hx171_0
        try clear hx171_1
        try clear hx171_2
        try clear p171
        try clear p2
        try clear q171
        obtain ⟨x10_2, x47_2, rfl, HA, HK2, HO_10, BK170, HB⟩ := hrel
        cases gk with
        | zero => exact absurd HA.out (by simp [machine_Load.l1])
        | succ k2 =>
         have H := HA.out
         clear HA
         simp only [machine_Load.l1] at H
         by_cases c28 : x47_2 < (l1.length : Int)
         ·rw [if_pos c28] at H
          have c28b0 : decide (x47_2 < (l1.length : Int)) = true := decide_eq_true c28
          clear c28
          by_cases c29 : 0 ≤ x47_2
          ·rw [if_pos c29] at H
           have c29b0 : decide (0 ≤ x47_2) = true := decide_eq_true c29
           clear c29
           by_cases c30 : x47_2 < (l1.length : Int)
           ·rw [if_pos c30] at H
            have c30b0 : decide (x47_2 < (l1.length : Int)) = true := decide_eq_true c30
            clear c30
            have H' := Aside0.mk H
            clear H
            have p179 : 0 ≤ (x47_2 : Int) := of_decide_eq_true (by first | (with_reducible assumption) | assumption)
            have q179 : x47_2 < (l1.length : Int) := of_decide_eq_true (by first | (with_reducible assumption) | assumption)
            obtain ⟨ad179, A179_1, c179_1, e179, hx179_0, hx179_1, hx179_2, hx179_3, hx179_4, hl179_1, hi179_1⟩ := at_T47 HR1.out x47_2 p179 q179
            cases e179
            replace hx179_0 := (HB.out.cell (World.block_lt_of_cell? w _ hx179_0)).trans hx179_0
            replace hx179_1 := (HB.out.cell (World.block_lt_of_cell? w _ hx179_1)).trans hx179_1
            replace hx179_2 := (HB.out.cell (World.block_lt_of_cell? w _ hx179_2)).trans hx179_2
            replace hx179_3 := (HB.out.cell (World.block_lt_of_cell? w _ hx179_3)).trans hx179_3
            replace hx179_4 := (HB.out.cell (World.block_lt_of_cell? w _ hx179_4)).trans hx179_4
            have HR179_1 := Aside0.mk hi179_1
            have HC179_1 := Aside0.mk hl179_1
            clear hi179_1 hl179_1
            replace p179 := eq_true p179
            replace q179 := eq_true q179
            go_wp2_with (first | ((with_reducible refine gate_dst (N := 12) rfl ?_); refine box_event ?hg (N := 12) ?hd (cs := #[.string (⟨#[]⟩ : ByteArray), .slice none 0 0, .int .i64 0, .int .i64 0, .int .i64 0]) (t := 47) ?hr ?_; (case hd => rfl); (case hg => rfl); (case hr => first | (go_simp; done) | (go_simp; rfl)); intro gb180 hg w31 hbox hb; have n0_ := Aside0.mk (Kd.R_below (by (with_reducible repeat (first | apply Kd.R_alloc | apply Kd.R_drewN | apply Kd.R_drew)); exact HO_10.out) hb); have n1_ := Aside0.mk (blk_below (g := gb170) (o := Sm.SM.obj Value.string (Value.int .i64) x171000_1) (by (with_reducible repeat (first | refine blk_drewN ?_ _ | refine blk_drew ?_ | refine blk_alloc ?_ _)); exact BK170.out) hb); have n2_ := Aside0.mk (below_step (by repeat (first | (with_reducible first | exact HB.out | apply below_alloc | apply pw_below_drewN | apply below_drew1 | refine below_set ?_ GE170.out) | exact HB.out)) hb); have n3_ := Aside0.mk (hbox); have n4_ := Aside0.mk ((by rw [hg]; exact (below_size (by repeat (first | (with_reducible first | exact HB.out | apply below_alloc | apply pw_below_drewN | apply below_drew1 | refine below_set ?_ GE170.out) | exact HB.out))) : w.heap.size ≤ gb180)); have n5_ := Aside0.mk ((by rw [hg]; exact (below_size (by repeat (first | (with_reducible first | exact HB.out | apply below_alloc | apply pw_below_drewN | apply below_drew1 | refine below_set ?_ GE170.out) | exact HB.out))) : w.heap.size ≤ gb180)); have n6_ := Aside0.mk ((by rw [hg]; exact Nat.ne_of_lt (blk_lt (g := gb170) (o := Sm.SM.obj Value.string (Value.int .i64) x171000_1) (by (with_reducible repeat (first | refine blk_drewN ?_ _ | refine blk_drew ?_ | refine blk_alloc ?_ _)); exact BK170.out)) : gb170 ≠ gb180)); have n7_ := Aside0.mk ((by rw [hg]; exact Nat.ne_of_gt (blk_lt (g := gb170) (o := Sm.SM.obj Value.string (Value.int .i64) x171000_1) (by (with_reducible repeat (first | refine blk_drewN ?_ _ | refine blk_drew ?_ | refine blk_alloc ?_ _)); exact BK170.out)) : gb180 ≠ gb170)); clear HO_10; clear BK170; clear HB; have HO_10 := n0_; have BK170 := n1_; have HB := n2_; have BK180 := n3_; have GW180 := n4_; have GE180 := n5_; have NB170_180 := n6_; have NB180_170 := n7_; clear n0_ n1_ n2_ n3_ n4_ n5_ n6_ n7_; clear hb hbox hg; have hnb32 := NB180_170.out; have hnc32 := NB170_180.out; have hcz33_0 : w31.cell? ⟨gb180, 0, none⟩ = some (.string (⟨#[]⟩ : ByteArray)) := (blk_cell BK180.out 0).trans rfl; have hcz33_1 : w31.cell? ⟨gb180, 1, none⟩ = some (.slice none 0 0) := (blk_cell BK180.out 1).trans rfl; have hcz33_2 : w31.cell? ⟨gb180, 2, none⟩ = some (.int .i64 0) := (blk_cell BK180.out 2).trans rfl; have hcz33_3 : w31.cell? ⟨gb180, 3, none⟩ = some (.int .i64 0) := (blk_cell BK180.out 3).trans rfl; have hcz33_4 : w31.cell? ⟨gb180, 4, none⟩ = some (.int .i64 0) := (blk_cell BK180.out 4).trans rfl; have hfz33_0 := blk_frozen BK180.out 0; have hfz33_1 := blk_frozen BK180.out 1; have hfz33_2 := blk_frozen BK180.out 2; have hfz33_3 := blk_frozen BK180.out 3; have hfz33_4 := blk_frozen BK180.out 4))
            go_loopg [54] k2 (fun kq v54 w' => ∃ (x10_3 : List Int) (x54_3 : Int), v54 = .int .i64 x54_3 ∧ Aside0 (machine_Load.l2 kq x10_3 l1 (l1.length : Int) x47_2 ((rd_T47 l1 x47_2).f1) (((rd_T47 l1 x47_2).f1).length : Int) x54_3 x171000_1 = some (r1, r2)) ∧ Aside0 (kq ≤ k2) ∧ Aside0 (Kd.R (Kd.int .i64) 3 w' w.heap.size (fun _ => True) v177 x10_3) ∧ Aside0 (w'.heap[gb170]? = some (Sm.SM.obj Value.string (Value.int .i64) x171000_1)) ∧ Aside0 (w'.heap[gb180]? = some (.cells #[.string ((rd_T47 l1 x47_2).f0), (.slice A179_1 ((rd_T47 l1 x47_2).f1).length c179_1), .int .i64 ((rd_T47 l1 x47_2).f2), .int .i64 ((rd_T47 l1 x47_2).f3), .int .i64 ((rd_T47 l1 x47_2).f4)] 47 (0, 0))) ∧ Aside0 (Below w.heap.size w w'))
            case atStart => exact ⟨(x10_2), (0), (by first | rfl | (simp; done) | (simp [*]; done)), H', ⟨Nat.le_refl _⟩, ⟨by (with_reducible repeat (first | apply Kd.R_alloc | apply Kd.R_drewN | apply Kd.R_drew)); exact Kd.R_mono (Kd.R_far (p := ⟨gb180, 4, none⟩) (Kd.R_far (p := ⟨gb180, 3, none⟩) (Kd.R_far (p := ⟨gb180, 2, none⟩) (Kd.R_far (p := ⟨gb180, 1, none⟩) (Kd.R_far (p := ⟨gb180, 0, none⟩) (Kd.R_types HO_10.out BK180.out (by decide)) (fun _ hk => hk.2) (.string ((rd_T47 l1 x47_2).f0))) (fun _ hk => hk.2) (.slice A179_1 ((rd_T47 l1 x47_2).f1).length c179_1)) (fun _ hk => hk.2) (.int .i64 ((rd_T47 l1 x47_2).f2))) (fun _ hk => hk.2) (.int .i64 ((rd_T47 l1 x47_2).f3))) (fun _ hk => hk.2) (.int .i64 ((rd_T47 l1 x47_2).f4))) (fun _ hk => trivial)⟩, ⟨by (with_reducible repeat (first | refine blk_drewN ?_ _ | refine blk_drew ?_ | refine blk_alloc ?_ _)); refine Sm.blk_farM ?_ NB170_180.out _; (with_reducible repeat (first | refine blk_drewN ?_ _ | refine blk_drew ?_ | refine blk_alloc ?_ _)); refine Sm.blk_farM ?_ NB170_180.out _; (with_reducible repeat (first | refine blk_drewN ?_ _ | refine blk_drew ?_ | refine blk_alloc ?_ _)); refine Sm.blk_farM ?_ NB170_180.out _; (with_reducible repeat (first | refine blk_drewN ?_ _ | refine blk_drew ?_ | refine blk_alloc ?_ _)); refine Sm.blk_farM ?_ NB170_180.out _; (with_reducible repeat (first | refine blk_drewN ?_ _ | refine blk_drew ?_ | refine blk_alloc ?_ _)); refine Sm.blk_farM ?_ NB170_180.out _; (with_reducible repeat (first | refine blk_drewN ?_ _ | refine blk_drew ?_ | refine blk_alloc ?_ _)); exact BK170.out⟩, ⟨by (with_reducible repeat (first | refine blk_drewN ?_ _ | refine blk_drew ?_ | refine blk_alloc ?_ _)); refine blk_put (cs := #[.string ((rd_T47 l1 x47_2).f0), .slice A179_1 ((rd_T47 l1 x47_2).f1).length c179_1, .int .i64 ((rd_T47 l1 x47_2).f2), .int .i64 ((rd_T47 l1 x47_2).f3), .int .i64 0]) ?_ 4 _ rfl; (with_reducible repeat (first | refine blk_drewN ?_ _ | refine blk_drew ?_ | refine blk_alloc ?_ _)); refine blk_put (cs := #[.string ((rd_T47 l1 x47_2).f0), .slice A179_1 ((rd_T47 l1 x47_2).f1).length c179_1, .int .i64 ((rd_T47 l1 x47_2).f2), .int .i64 0, .int .i64 0]) ?_ 3 _ rfl; (with_reducible repeat (first | refine blk_drewN ?_ _ | refine blk_drew ?_ | refine blk_alloc ?_ _)); refine blk_put (cs := #[.string ((rd_T47 l1 x47_2).f0), .slice A179_1 ((rd_T47 l1 x47_2).f1).length c179_1, .int .i64 0, .int .i64 0, .int .i64 0]) ?_ 2 _ rfl; (with_reducible repeat (first | refine blk_drewN ?_ _ | refine blk_drew ?_ | refine blk_alloc ?_ _)); refine blk_put (cs := #[.string ((rd_T47 l1 x47_2).f0), .slice none 0 0, .int .i64 0, .int .i64 0, .int .i64 0]) ?_ 1 _ rfl; (with_reducible repeat (first | refine blk_drewN ?_ _ | refine blk_drew ?_ | refine blk_alloc ?_ _)); refine blk_put (cs := #[.string (⟨#[]⟩ : ByteArray), .slice none 0 0, .int .i64 0, .int .i64 0, .int .i64 0]) ?_ 0 _ rfl; (with_reducible repeat (first | refine blk_drewN ?_ _ | refine blk_drew ?_ | refine blk_alloc ?_ _)); exact BK180.out⟩, ⟨by repeat (first | (with_reducible first | exact HB.out | apply below_alloc | apply pw_below_drewN | apply below_drew1 | refine below_set ?_ GE170.out | refine below_set ?_ GE180.out) | exact HB.out)⟩⟩
            case round =>
             clear H'
             try clear c1
             try clear p1
             try clear q1
             try clear hx1
             try clear c2
             try clear p2
             try clear c3
             try clear c4
             try clear c4b0
             try clear c4b1
             try clear p6
             try clear c7
             try clear c7b0
             try clear c8
             try clear c8b0
             try clear c9
             try clear c9b0
             try clear c11
             try clear c11b0
             try clear c11b1
             try clear c13
             try clear c17
             try clear p17
             try clear q17
             try clear hx17
             try clear c20
             try clear c24
             try clear c24b0
             try clear c24b1
             try clear c25
             try clear c25b0
             try clear c25b1
             try clear c28
             try clear c28b0
             try clear c29
             try clear c29b0
             try clear c30
             try clear c30b0
             try clear c32
             try clear hcz14_0
             try clear hcz14_1
             try clear hcz14_2
             try clear hcz17_0
             try clear hcz17_1
             try clear hcz17_2
             try clear hcz21_0
             try clear hcz21_1
             try clear hcz21_2
             try clear hcz33_0
             try clear hcz33_1
             try clear hcz33_2
             try clear hcz33_3
             try clear hcz33_4
             try clear hfz14_0
             try clear hfz14_1
             try clear hfz14_2
             try clear hfz17_0
             try clear hfz17_1
             try clear hfz17_2
             try clear hfz21_0
             try clear hfz21_1
             try clear hfz21_2
             try clear hfz33_0
             try clear hfz33_1
             try clear hfz33_2
             try clear hfz33_3
             try clear hfz33_4
             try clear hx171_0
             try clear hx171_1
             try clear hx171_2
             try clear hx179_0
             try clear hx179_1
             try clear hx179_2
             try clear hx179_3
             try clear hx179_4
             try clear p1
             try clear p17
             try clear p171
             try clear p179
             try clear p2
             try clear p6
             try clear q1
             try clear q17
             try clear q171
             try clear q179
             obtain ⟨x10_3, x54_3, rfl, HA, HK3, HO_10, BK170, BK180, HB⟩ := hrel
             cases gk with
             | zero => exact absurd HA.out (by simp [machine_Load.l2])
             | succ k3 =>
              have H := HA.out
              clear HA
              simp only [machine_Load.l2] at H
              by_cases c34 : x54_3 < (((rd_T47 l1 x47_2).f1).length : Int)
              ·rw [if_pos c34] at H
               have c34b0 : decide (x54_3 < (((rd_T47 l1 x47_2).f1).length : Int)) = true := decide_eq_true c34
               clear c34
               by_cases c35 : 0 ≤ x54_3
               ·rw [if_pos c35] at H
                have c35b0 : decide (0 ≤ x54_3) = true := decide_eq_true c35
                clear c35
                by_cases c36 : x54_3 < (((rd_T47 l1 x47_2).f1).length : Int)
                ·rw [if_pos c36] at H
                 have c36b0 : decide (x54_3 < (((rd_T47 l1 x47_2).f1).length : Int)) = true := decide_eq_true c36
                 clear c36
                 by_cases c37 : (x171000_1.has ((rd_T36 ((rd_T47 l1 x47_2).f1) x54_3).f0)) = true
                 ·rw [if_pos c37] at H
                  have c37b0 : (x171000_1.has ((rd_T36 ((rd_T47 l1 x47_2).f1) x54_3).f0)) = true := c37
                  clear c37
                  by_cases c38 : 0 ≤ (x171000_1.at_ ((rd_T36 ((rd_T47 l1 x47_2).f1) x54_3).f0) 0)
                  ·rw [if_pos c38] at H
                   have c38b0 : decide (0 ≤ (x171000_1.at_ ((rd_T36 ((rd_T47 l1 x47_2).f1) x54_3).f0) 0)) = true := decide_eq_true c38
                   clear c38
                   by_cases c39 : (x171000_1.at_ ((rd_T36 ((rd_T47 l1 x47_2).f1) x54_3).f0) 0) < (x10_3.length : Int)
                   ·rw [if_pos c39] at H
                    have c39b0 : decide ((x171000_1.at_ ((rd_T36 ((rd_T47 l1 x47_2).f1) x54_3).f0) 0) < (x10_3.length : Int)) = true := decide_eq_true c39
                    clear c39
                    obtain ⟨y184, hy184⟩ : ∃ y_ : List Int, y_ = (x10_3.set ((x171000_1.at_ ((rd_T36 ((rd_T47 l1 x47_2).f1) x54_3).f0) 0) : Int).toNat (wrap64 ((rd x10_3 (x171000_1.at_ ((rd_T36 ((rd_T47 l1 x47_2).f1) x54_3).f0) 0)) + ((rd_T36 ((rd_T47 l1 x47_2).f1) x54_3).f1)))) := ⟨_, rfl⟩
                    replace H : (machine_Load.l2 k3 y184 l1 (l1.length : Int) x47_2 ((rd_T47 l1 x47_2).f1) (((rd_T47 l1 x47_2).f1).length : Int) (wrap64 (x54_3 + 1)) x171000_1) = some (r1, r2) := by first | (rw [hy184]; with_reducible exact H) | (have H2_ := (Option.bind_some _ _).symm.trans H; rw [hy184]; with_reducible exact H2_) | (have H2_ := (Option.bind_some _ _).symm.trans H; with_reducible exact H2_) | with_reducible exact H | (rw [hy184]; exact H) | exact H
                    have Ny184 := Aside0.mk hy184
                    clear hy184
                    have H' := Aside0.mk H
                    clear H
                    have p181 : 0 ≤ (x54_3 : Int) := of_decide_eq_true (by first | (with_reducible assumption) | assumption)
                    have q181 : x54_3 < (((rd_T47 l1 x47_2).f1).length : Int) := of_decide_eq_true (by first | (with_reducible assumption) | assumption)
                    obtain ⟨ad181, e181, hx181_0, hx181_1, hx181_2⟩ := at_T36 HR179_1.out x54_3 p181 q181
                    cases e181
                    replace hx181_0 := (HB.out.cell (World.block_lt_of_cell? w _ hx181_0)).trans hx181_0
                    replace hx181_1 := (HB.out.cell (World.block_lt_of_cell? w _ hx181_1)).trans hx181_1
                    replace hx181_2 := (HB.out.cell (World.block_lt_of_cell? w _ hx181_2)).trans hx181_2
                    replace p181 := eq_true p181
                    replace q181 := eq_true q181
                    try go_wp2_with (first | ((with_reducible refine gate_dst (N := 14) rfl ?_); refine box_event ?hg (N := 14) ?hd (cs := #[.string (⟨#[]⟩ : ByteArray), .int .i64 0, .int .i64 0]) (t := 36) ?hr ?_; (case hd => rfl); (case hg => rfl); (case hr => first | (go_simp; done) | (go_simp; rfl)); intro gb182 hg w41 hbox hb; have n0_ := Aside0.mk (Kd.R_below (by (with_reducible repeat (first | apply Kd.R_alloc | apply Kd.R_drewN | apply Kd.R_drew)); exact HO_10.out) hb); have n1_ := Aside0.mk (blk_below (g := gb170) (o := Sm.SM.obj Value.string (Value.int .i64) x171000_1) (by (with_reducible repeat (first | refine blk_drewN ?_ _ | refine blk_drew ?_ | refine blk_alloc ?_ _)); exact BK170.out) hb); have n2_ := Aside0.mk (blk_below (g := gb180) (o := .cells #[.string ((rd_T47 l1 x47_2).f0), .slice (some ad181) ((rd_T47 l1 x47_2).f1).length c179_1, .int .i64 ((rd_T47 l1 x47_2).f2), .int .i64 ((rd_T47 l1 x47_2).f3), .int .i64 ((rd_T47 l1 x47_2).f4)] 47 (0, 0)) (by (with_reducible repeat (first | refine blk_drewN ?_ _ | refine blk_drew ?_ | refine blk_alloc ?_ _)); exact BK180.out) hb); have n3_ := Aside0.mk (below_step (by repeat (first | (with_reducible first | exact HB.out | apply below_alloc | apply pw_below_drewN | apply below_drew1 | refine below_set ?_ GE170.out | refine below_set ?_ GE180.out) | exact HB.out)) hb); have n4_ := Aside0.mk (hbox); have n5_ := Aside0.mk ((by rw [hg]; exact (below_size (by repeat (first | (with_reducible first | exact HB.out | apply below_alloc | apply pw_below_drewN | apply below_drew1 | refine below_set ?_ GE170.out | refine below_set ?_ GE180.out) | exact HB.out))) : w.heap.size ≤ gb182)); have n6_ := Aside0.mk ((by rw [hg]; exact (below_size (by repeat (first | (with_reducible first | exact HB.out | apply below_alloc | apply pw_below_drewN | apply below_drew1 | refine below_set ?_ GE170.out | refine below_set ?_ GE180.out) | exact HB.out))) : w.heap.size ≤ gb182)); have n7_ := Aside0.mk ((by rw [hg]; exact Nat.ne_of_lt (blk_lt (g := gb170) (o := Sm.SM.obj Value.string (Value.int .i64) x171000_1) (by (with_reducible repeat (first | refine blk_drewN ?_ _ | refine blk_drew ?_ | refine blk_alloc ?_ _)); exact BK170.out)) : gb170 ≠ gb182)); have n8_ := Aside0.mk ((by rw [hg]; exact Nat.ne_of_gt (blk_lt (g := gb170) (o := Sm.SM.obj Value.string (Value.int .i64) x171000_1) (by (with_reducible repeat (first | refine blk_drewN ?_ _ | refine blk_drew ?_ | refine blk_alloc ?_ _)); exact BK170.out)) : gb182 ≠ gb170)); have n9_ := Aside0.mk ((by rw [hg]; exact Nat.ne_of_lt (blk_lt (g := gb180) (o := .cells #[.string ((rd_T47 l1 x47_2).f0), .slice (some ad181) ((rd_T47 l1 x47_2).f1).length c179_1, .int .i64 ((rd_T47 l1 x47_2).f2), .int .i64 ((rd_T47 l1 x47_2).f3), .int .i64 ((rd_T47 l1 x47_2).f4)] 47 (0, 0)) (by (with_reducible repeat (first | refine blk_drewN ?_ _ | refine blk_drew ?_ | refine blk_alloc ?_ _)); exact BK180.out)) : gb180 ≠ gb182)); have n10_ := Aside0.mk ((by rw [hg]; exact Nat.ne_of_gt (blk_lt (g := gb180) (o := .cells #[.string ((rd_T47 l1 x47_2).f0), .slice (some ad181) ((rd_T47 l1 x47_2).f1).length c179_1, .int .i64 ((rd_T47 l1 x47_2).f2), .int .i64 ((rd_T47 l1 x47_2).f3), .int .i64 ((rd_T47 l1 x47_2).f4)] 47 (0, 0)) (by (with_reducible repeat (first | refine blk_drewN ?_ _ | refine blk_drew ?_ | refine blk_alloc ?_ _)); exact BK180.out)) : gb182 ≠ gb180)); clear HO_10; clear BK170; clear BK180; clear HB; have HO_10 := n0_; have BK170 := n1_; have BK180 := n2_; have HB := n3_; have BK182 := n4_; have GW182 := n5_; have GE182 := n6_; have NB170_182 := n7_; have NB182_170 := n8_; have NB180_182 := n9_; have NB182_180 := n10_; clear n0_ n1_ n2_ n3_ n4_ n5_ n6_ n7_ n8_ n9_ n10_; clear hb hbox hg; have hnb42 := NB182_170.out; have hnc42 := NB170_182.out; have hnb43 := NB182_180.out; have hnc43 := NB180_182.out; have hcz44_0 : w41.cell? ⟨gb182, 0, none⟩ = some (.string (⟨#[]⟩ : ByteArray)) := (blk_cell BK182.out 0).trans rfl; have hcz44_1 : w41.cell? ⟨gb182, 1, none⟩ = some (.int .i64 0) := (blk_cell BK182.out 1).trans rfl; have hcz44_2 : w41.cell? ⟨gb182, 2, none⟩ = some (.int .i64 0) := (blk_cell BK182.out 2).trans rfl; have hfz44_0 := blk_frozen BK182.out 0; have hfz44_1 := blk_frozen BK182.out 1; have hfz44_2 := blk_frozen BK182.out 2) | ((with_reducible refine gate_dst (N := 62) rfl ?_); refine Sm.look2_event (κ := ByteArray) (β := Int) (ke := Value.string) (ve := (Value.int .i64)) (m := x171000_1) (.tmp 59) (.tmp 61) rfl rfl Try.underlying59 (Sm.SM.key_str Try.underlying9) (z := 0) (fun w_ => Sm.zero_run (by kernel_rfl) w_) ((rd_T36 ((rd_T47 l1 x47_2).f1) x54_3).f0) (by first | rfl | (go_simp; done) | (go_simp; rfl)) (by first | rfl | (go_simp; done) | (go_simp; rfl)) (by (with_reducible repeat (first | refine blk_drewN ?_ _ | refine blk_drew ?_ | refine blk_alloc ?_ _)); refine Sm.blk_farM ?_ NB170_182.out _; (with_reducible repeat (first | refine blk_drewN ?_ _ | refine blk_drew ?_ | refine blk_alloc ?_ _)); refine Sm.blk_farM ?_ NB170_182.out _; (with_reducible repeat (first | refine blk_drewN ?_ _ | refine blk_drew ?_ | refine blk_alloc ?_ _)); refine Sm.blk_farM ?_ NB170_182.out _; (with_reducible repeat (first | refine blk_drewN ?_ _ | refine blk_drew ?_ | refine blk_alloc ?_ _)); exact BK170.out) ?_; (try rw [show (x171000_1.has ((rd_T36 ((rd_T47 l1 x47_2).f1) x54_3).f0)) = true from by assumption]); (try rw [show (x171000_1.has ((rd_T36 ((rd_T47 l1 x47_2).f1) x54_3).f0)) = false from by assumption])))
                    have n0_ : Aside0 (Kd.R (Kd.int .i64) 3 (((w41.setCell ⟨gb182, 0, none⟩ (.string ((rd_T36 ((rd_T47 l1 x47_2).f1) x54_3).f0))).setCell ⟨gb182, 1, none⟩ (.int .i64 ((rd_T36 ((rd_T47 l1 x47_2).f1) x54_3).f1))).setCell ⟨gb182, 2, none⟩ (.int .i64 ((rd_T36 ((rd_T47 l1 x47_2).f1) x54_3).f2))) w.heap.size (fun _ => True) v177 x10_3) := ⟨by (with_reducible repeat (first | apply Kd.R_alloc | apply Kd.R_drewN | apply Kd.R_drew)); exact Kd.R_mono (Kd.R_far (p := ⟨gb182, 2, none⟩) (Kd.R_far (p := ⟨gb182, 1, none⟩) (Kd.R_far (p := ⟨gb182, 0, none⟩) (Kd.R_types HO_10.out BK182.out (by decide)) (fun _ hk => hk.2) (.string ((rd_T36 ((rd_T47 l1 x47_2).f1) x54_3).f0))) (fun _ hk => hk.2) (.int .i64 ((rd_T36 ((rd_T47 l1 x47_2).f1) x54_3).f1))) (fun _ hk => hk.2) (.int .i64 ((rd_T36 ((rd_T47 l1 x47_2).f1) x54_3).f2))) (fun _ hk => trivial)⟩
                    have n1_ : Aside0 ((((w41.setCell ⟨gb182, 0, none⟩ (.string ((rd_T36 ((rd_T47 l1 x47_2).f1) x54_3).f0))).setCell ⟨gb182, 1, none⟩ (.int .i64 ((rd_T36 ((rd_T47 l1 x47_2).f1) x54_3).f1))).setCell ⟨gb182, 2, none⟩ (.int .i64 ((rd_T36 ((rd_T47 l1 x47_2).f1) x54_3).f2))).heap[gb170]? = some (Sm.SM.obj Value.string (Value.int .i64) x171000_1)) := ⟨by (with_reducible repeat (first | refine blk_drewN ?_ _ | refine blk_drew ?_ | refine blk_alloc ?_ _)); refine Sm.blk_farM ?_ NB170_182.out _; (with_reducible repeat (first | refine blk_drewN ?_ _ | refine blk_drew ?_ | refine blk_alloc ?_ _)); refine Sm.blk_farM ?_ NB170_182.out _; (with_reducible repeat (first | refine blk_drewN ?_ _ | refine blk_drew ?_ | refine blk_alloc ?_ _)); refine Sm.blk_farM ?_ NB170_182.out _; (with_reducible repeat (first | refine blk_drewN ?_ _ | refine blk_drew ?_ | refine blk_alloc ?_ _)); exact BK170.out⟩
                    have n2_ : Aside0 ((((w41.setCell ⟨gb182, 0, none⟩ (.string ((rd_T36 ((rd_T47 l1 x47_2).f1) x54_3).f0))).setCell ⟨gb182, 1, none⟩ (.int .i64 ((rd_T36 ((rd_T47 l1 x47_2).f1) x54_3).f1))).setCell ⟨gb182, 2, none⟩ (.int .i64 ((rd_T36 ((rd_T47 l1 x47_2).f1) x54_3).f2))).heap[gb180]? = some (.cells #[.string ((rd_T47 l1 x47_2).f0), .slice (some ad181) ((rd_T47 l1 x47_2).f1).length c179_1, .int .i64 ((rd_T47 l1 x47_2).f2), .int .i64 ((rd_T47 l1 x47_2).f3), .int .i64 ((rd_T47 l1 x47_2).f4)] 47 (0, 0))) := ⟨by (with_reducible repeat (first | refine blk_drewN ?_ _ | refine blk_drew ?_ | refine blk_alloc ?_ _)); refine blk_far ?_ NB180_182.out _; (with_reducible repeat (first | refine blk_drewN ?_ _ | refine blk_drew ?_ | refine blk_alloc ?_ _)); refine blk_far ?_ NB180_182.out _; (with_reducible repeat (first | refine blk_drewN ?_ _ | refine blk_drew ?_ | refine blk_alloc ?_ _)); refine blk_far ?_ NB180_182.out _; (with_reducible repeat (first | refine blk_drewN ?_ _ | refine blk_drew ?_ | refine blk_alloc ?_ _)); exact BK180.out⟩
                    have n3_ : Aside0 ((((w41.setCell ⟨gb182, 0, none⟩ (.string ((rd_T36 ((rd_T47 l1 x47_2).f1) x54_3).f0))).setCell ⟨gb182, 1, none⟩ (.int .i64 ((rd_T36 ((rd_T47 l1 x47_2).f1) x54_3).f1))).setCell ⟨gb182, 2, none⟩ (.int .i64 ((rd_T36 ((rd_T47 l1 x47_2).f1) x54_3).f2))).heap[gb182]? = some (.cells #[.string ((rd_T36 ((rd_T47 l1 x47_2).f1) x54_3).f0), .int .i64 ((rd_T36 ((rd_T47 l1 x47_2).f1) x54_3).f1), .int .i64 ((rd_T36 ((rd_T47 l1 x47_2).f1) x54_3).f2)] 36 (0, 0))) := ⟨by (with_reducible repeat (first | refine blk_drewN ?_ _ | refine blk_drew ?_ | refine blk_alloc ?_ _)); refine blk_put (cs := #[.string ((rd_T36 ((rd_T47 l1 x47_2).f1) x54_3).f0), .int .i64 ((rd_T36 ((rd_T47 l1 x47_2).f1) x54_3).f1), .int .i64 0]) ?_ 2 _ rfl; (with_reducible repeat (first | refine blk_drewN ?_ _ | refine blk_drew ?_ | refine blk_alloc ?_ _)); refine blk_put (cs := #[.string ((rd_T36 ((rd_T47 l1 x47_2).f1) x54_3).f0), .int .i64 0, .int .i64 0]) ?_ 1 _ rfl; (with_reducible repeat (first | refine blk_drewN ?_ _ | refine blk_drew ?_ | refine blk_alloc ?_ _)); refine blk_put (cs := #[.string (⟨#[]⟩ : ByteArray), .int .i64 0, .int .i64 0]) ?_ 0 _ rfl; (with_reducible repeat (first | refine blk_drewN ?_ _ | refine blk_drew ?_ | refine blk_alloc ?_ _)); exact BK182.out⟩
                    have n4_ : Aside0 (Below w.heap.size w (((w41.setCell ⟨gb182, 0, none⟩ (.string ((rd_T36 ((rd_T47 l1 x47_2).f1) x54_3).f0))).setCell ⟨gb182, 1, none⟩ (.int .i64 ((rd_T36 ((rd_T47 l1 x47_2).f1) x54_3).f1))).setCell ⟨gb182, 2, none⟩ (.int .i64 ((rd_T36 ((rd_T47 l1 x47_2).f1) x54_3).f2)))) := ⟨by repeat (first | (with_reducible first | exact HB.out | apply below_alloc | apply pw_below_drewN | apply below_drew1 | refine below_set ?_ GE170.out | refine below_set ?_ GE180.out | refine below_set ?_ GE182.out) | exact HB.out)⟩
                    (try clear HO_10)
                    (try clear BK170)
                    (try clear BK180)
                    (try clear BK182)
                    (try clear HB)
                    generalize (((w41.setCell ⟨gb182, 0, none⟩ (.string ((rd_T36 ((rd_T47 l1 x47_2).f1) x54_3).f0))).setCell ⟨gb182, 1, none⟩ (.int .i64 ((rd_T36 ((rd_T47 l1 x47_2).f1) x54_3).f1))).setCell ⟨gb182, 2, none⟩ (.int .i64 ((rd_T36 ((rd_T47 l1 x47_2).f1) x54_3).f2))) = w45 at n0_ n1_ n2_ n3_ n4_ ⊢
                    have HO_10 := n0_
                    have BK170 := n1_
                    have BK180 := n2_
                    have BK182 := n3_
                    have HB := n4_
                    clear n0_ n1_ n2_ n3_ n4_
                    have n0_ := Aside0.mk (Kd.R_drew HO_10.out)
                    have n1_ := Aside0.mk (blk_drew BK170.out)
                    have n2_ := Aside0.mk (blk_drew BK180.out)
                    have n3_ := Aside0.mk (blk_drew BK182.out)
                    have n4_ := Aside0.mk (below_drew1 HB.out)
                    clear HO_10
                    clear BK170
                    clear BK180
                    clear BK182
                    clear HB
                    have HO_10 := n0_
                    have BK170 := n1_
                    have BK180 := n2_
                    have BK182 := n3_
                    have HB := n4_
                    clear n0_ n1_ n2_ n3_ n4_
                    obtain ⟨Ao47, co47, eo47⟩ := Kd.R_slice HO_10.out
                    (first | subst eo47 | (injection eo47 with f1_ f2_ f3_; have f4_ := f1_.symm; have f5_ := f3_.symm; clear f1_ f2_ f3_; subst f4_; subst f5_))
                    have p183 : 0 ≤ ((x171000_1.at_ ((rd_T36 ((rd_T47 l1 x47_2).f1) x54_3).f0) 0) : Int) := of_decide_eq_true (by first | (with_reducible assumption) | assumption)
                    have q183 : (x171000_1.at_ ((rd_T36 ((rd_T47 l1 x47_2).f1) x54_3).f0) 0) < (x10_3.length : Int) := of_decide_eq_true (by first | (with_reducible assumption) | assumption)
                    obtain ⟨ad183, e183, hx183_0⟩ := Kd.at_int (Kd.R_reads' HO_10.out).2.2 (x171000_1.at_ ((rd_T36 ((rd_T47 l1 x47_2).f1) x54_3).f0) 0) p183 q183
                    cases e183
                    replace p183 := eq_true p183
                    replace q183 := eq_true q183
                    have p40 : 0 ≤ ((x171000_1.at_ ((rd_T36 ((rd_T47 l1 x47_2).f1) x54_3).f0) 0) : Int) := of_decide_eq_true (by first | (with_reducible assumption) | assumption)
                    have q40 : ((x171000_1.at_ ((rd_T36 ((rd_T47 l1 x47_2).f1) x54_3).f0) 0) : Int) < ((x10_3.length : Int) : Int) := of_decide_eq_true (by first | (with_reducible assumption) | assumption)
                    obtain ⟨go40, co40, eo40, gb40, gl40, cl40, HG40⟩ := Kd.R_form HO_10.out (by omega)
                    (first | cases eo40 | (injection eo40 with ea_ en_ ec_; (first | subst ea_ | (injection ea_ with ea_; subst ea_)); subst ec_; clear en_))
                    have GB40 := Aside0.mk gb40
                    have GG40 := Aside0.mk HG40
                    clear gb40 gl40 HG40
                    (first | simp only [add_plain] at hx183_0 | skip)
                    obtain ⟨hx40_0, hf40_0⟩ := Kd.R_celln 0 HO_10.out ((x171000_1.at_ ((rd_T36 ((rd_T47 l1 x47_2).f1) x54_3).f0) 0) : Int) p40 q40
                    replace p40 := eq_true p40
                    replace q40 := eq_true q40
                    have HP48 := Kd.R_putn HO_10.out ((x171000_1.at_ ((rd_T36 ((rd_T47 l1 x47_2).f1) x54_3).f0) 0) : Int) (wrap64 ((rd x10_3 (x171000_1.at_ ((rd_T36 ((rd_T47 l1 x47_2).f1) x54_3).f0) 0)) + ((rd_T36 ((rd_T47 l1 x47_2).f1) x54_3).f1)))
                    rw [← Ny184.out] at HP48
                    have HQ48 := Aside0.mk HP48
                    clear HP48
                    refine start_ (n := 9) (S := fun w' => w'.cell? ⟨gb182, 0, none⟩ = some (.string ((rd_T36 ((rd_T47 l1 x47_2).f1) x54_3).f0)) ∧ w'.cell? ⟨gb182, 1, none⟩ = some (.int .i64 ((rd_T36 ((rd_T47 l1 x47_2).f1) x54_3).f1)) ∧ w'.cell? ⟨gb182, 2, none⟩ = some (.int .i64 ((rd_T36 ((rd_T47 l1 x47_2).f1) x54_3).f2)) ∧ w'.cell? ⟨go40, ((x171000_1.at_ ((rd_T36 ((rd_T47 l1 x47_2).f1) x54_3).f0) 0)).toNat, none⟩ = some (.int .i64 (rd x10_3 (x171000_1.at_ ((rd_T36 ((rd_T47 l1 x47_2).f1) x54_3).f0) 0)))) (ds := [8]) #[false, false, false, false, false, false, false, false, false] (by kernel_rfl) rfl rfl ⟨(blk_cell BK182.out 0).trans rfl, (blk_cell BK182.out 1).trans rfl, (blk_cell BK182.out 2).trans rfl, hx183_0⟩ (fun hHeld => ?_); refine with_tabW machine_Load.tab20 machine_Load.bits20 (fun HT_ HW_ => ?_)
                    generalize w45.drew = w46 at HO_10 BK170 BK180 BK182 HB GG40 HQ48 hf40_0 hx183_0 hx40_0 hHeld ⊢
                    refine pure_ (i := 0) (N := some 66) (v := ?_) (a' := ?_) #[true, false, false, false, false, false, false, false, false] rfl rfl (any_of HT_.out (by kernel_rfl)) (fun _ _ _ h => h) (Or.inl ⟨by rfl, ?_⟩) ?_ ?_
                    rotate_left
                    ·intro w'
                     go_simp
                     with_reducible rfl
                    rotate_left
                    ·simp only [Act.put, List.setIfInBounds_toArray, List.set_cons_zero, List.set_cons_succ, i64_w, i32_w]
                     rfl
                    refine pure_ (i := 1) (N := some 67) (v := ?_) (a' := ?_) #[true, true, false, false, false, false, false, false, false] rfl rfl (any_of HT_.out (by kernel_rfl)) (fun _ _ _ h => h) (Or.inl ⟨by rfl, ?_⟩) ?_ ?_
                    rotate_left
                    ·intro w'
                     go_simp
                     with_reducible rfl
                    rotate_left
                    ·simp only [Act.put, List.setIfInBounds_toArray, List.set_cons_zero, List.set_cons_succ, i64_w, i32_w]
                     rfl
                    refine pure_ (i := 2) (N := some 68) (v := ?_) (a' := ?_) #[true, true, true, false, false, false, false, false, false] rfl rfl (any_of HT_.out (by kernel_rfl)) (fun _ _ _ h => h) (Or.inl ⟨by rfl, ?_⟩) ?_ ?_
                    rotate_left
                    ·intro w'
                     go_simp
                     with_reducible rfl
                    rotate_left
                    ·simp only [Act.put, List.setIfInBounds_toArray, List.set_cons_zero, List.set_cons_succ, i64_w, i32_w]
                     rfl
                    refine pure_ (i := 4) (N := some 70) (v := ?_) (a' := ?_) #[true, true, true, false, true, false, false, false, false] rfl rfl (any_of HT_.out (by kernel_rfl)) (fun _ _ _ h => h) (Or.inl ⟨by rfl, ?_⟩) ?_ ?_
                    rotate_left
                    ·intro w'
                     go_simp
                     with_reducible rfl
                    rotate_left
                    ·simp only [Act.put, List.setIfInBounds_toArray, List.set_cons_zero, List.set_cons_succ, i64_w, i32_w]
                     rfl
                    refine take_ (i := 3) (N := some 69) (v := ?_) (a' := ?_) #[true, true, true, true, true, false, false, false, false] rfl rfl (take_ofW HT_.out HW_.out (by kernel_rfl)) (fun _ _ _ h => h) (Or.inl ⟨by rfl, ?_⟩) hHeld ?_ ?_
                    rotate_left
                    ·rintro w' ⟨s0, s1, s2, s3⟩
                     go_simp
                     with_reducible rfl
                    rotate_left
                    ·simp only [Act.put, List.setIfInBounds_toArray, List.set_cons_zero, List.set_cons_succ, i64_w, i32_w]
                     rfl
                    refine take_ (i := 5) (N := some 71) (v := ?_) (a' := ?_) #[true, true, true, true, true, true, false, false, false] rfl rfl (take_ofW HT_.out HW_.out (by kernel_rfl)) (fun _ _ _ h => h) (Or.inl ⟨by rfl, ?_⟩) hHeld ?_ ?_
                    rotate_left
                    ·rintro w' ⟨s0, s1, s2, s3⟩
                     go_simp
                     with_reducible rfl
                    rotate_left
                    ·simp only [Act.put, List.setIfInBounds_toArray, List.set_cons_zero, List.set_cons_succ, i64_w, i32_w]
                     rfl
                    refine pure_ (i := 6) (N := some 72) (v := ?_) (a' := ?_) #[true, true, true, true, true, true, true, false, false] rfl rfl (any_of HT_.out (by kernel_rfl)) (fun _ _ _ h => h) (Or.inl ⟨by rfl, ?_⟩) ?_ ?_
                    rotate_left
                    ·intro w'
                     go_simp
                     with_reducible rfl
                    rotate_left
                    ·simp only [Act.put, List.setIfInBounds_toArray, List.set_cons_zero, List.set_cons_succ, i64_w, i32_w]
                     rfl
                    refine pure_ (i := 7) (N := some 73) (v := ?_) (a' := ?_) #[true, true, true, true, true, true, true, true, false] rfl rfl (any_of HT_.out (by kernel_rfl)) (fun _ _ _ h => h) (Or.inl ⟨by rfl, ?_⟩) ?_ ?_
                    rotate_left
                    ·intro w'
                     go_simp
                     with_reducible rfl
                    rotate_left
                    ·simp only [Act.put, List.setIfInBounds_toArray, List.set_cons_zero, List.set_cons_succ, i64_w, i32_w]
                     rfl
                    refine last_ (i := 8) (N := none) #[true, true, true, true, true, true, true, true, true] rfl rfl (one_of HT_.out (by kernel_rfl)) (by decide) (fun K hK => ?_)
                    refine skip_ (w1 := ?_) (by rfl) rfl ?_ ?_
                    rotate_left
                    ·go_simp
                     rfl
                    refine hK.out _ _ ?_
                    clear hK K
                    refine done_ (done_of HT_.out (by kernel_rfl)) ?_
                    try go_wp2
                    go_roundg k3
                    case measure => have := HK1.out; have := HK2.out; have := HK3.out; omega
                    case rel => exact ⟨(y184), (wrap64 (x54_3 + 1)), (by first | rfl | (simp; done) | (simp [*]; done)), H', ⟨by have := HK1.out; have := HK2.out; have := HK3.out; omega⟩, ⟨by (with_reducible repeat (first | apply Kd.R_alloc | apply Kd.R_drewN | apply Kd.R_drew)); exact HQ48.out⟩, ⟨by (with_reducible repeat (first | refine blk_drewN ?_ _ | refine blk_drew ?_ | refine blk_alloc ?_ _)); refine Sm.blk_farM ?_ (by have h_ := Kd.R_neM HO_10.out BK170.out; intro e_; exact h_ (by rw [e_]; rfl)) _; (with_reducible repeat (first | refine blk_drewN ?_ _ | refine blk_drew ?_ | refine blk_alloc ?_ _)); exact BK170.out⟩, ⟨by (with_reducible repeat (first | refine blk_drewN ?_ _ | refine blk_drew ?_ | refine blk_alloc ?_ _)); refine blk_far ?_ (by have h_ := Kd.R_ne HO_10.out BK180.out (by decide); intro e_; exact h_ (by rw [e_]; rfl)) _; (with_reducible repeat (first | refine blk_drewN ?_ _ | refine blk_drew ?_ | refine blk_alloc ?_ _)); exact BK180.out⟩, ⟨by repeat (first | (with_reducible first | exact HB.out | apply below_alloc | apply pw_below_drewN | apply below_drew1 | refine below_set ?_ GB40.out | refine below_set ?_ GE170.out | refine below_set ?_ GE180.out | refine below_set ?_ GE182.out) | exact HB.out)⟩⟩
                   ·rw [if_neg c39] at H
                    exact absurd H (by simp)
                  ·rw [if_neg c38] at H
                   exact absurd H (by simp)
                 ·rw [if_neg c37] at H
                  have c37b0 : (x171000_1.has ((rd_T36 ((rd_T47 l1 x47_2).f1) x54_3).f0)) = false := by simpa using c37
                  clear c37
                  have H' := Aside0.mk H
                  clear H
                  have p181 : 0 ≤ (x54_3 : Int) := of_decide_eq_true (by first | (with_reducible assumption) | assumption)
                  have q181 : x54_3 < (((rd_T47 l1 x47_2).f1).length : Int) := of_decide_eq_true (by first | (with_reducible assumption) | assumption)
                  obtain ⟨ad181, e181, hx181_0, hx181_1, hx181_2⟩ := at_T36 HR179_1.out x54_3 p181 q181
                  cases e181
                  replace hx181_0 := (HB.out.cell (World.block_lt_of_cell? w _ hx181_0)).trans hx181_0
                  replace hx181_1 := (HB.out.cell (World.block_lt_of_cell? w _ hx181_1)).trans hx181_1
                  replace hx181_2 := (HB.out.cell (World.block_lt_of_cell? w _ hx181_2)).trans hx181_2
                  replace p181 := eq_true p181
                  replace q181 := eq_true q181
                  go_wp2_with (first | ((with_reducible refine gate_dst (N := 14) rfl ?_); refine box_event ?hg (N := 14) ?hd (cs := #[.string (⟨#[]⟩ : ByteArray), .int .i64 0, .int .i64 0]) (t := 36) ?hr ?_; (case hd => rfl); (case hg => rfl); (case hr => first | (go_simp; done) | (go_simp; rfl)); intro gb182 hg w49 hbox hb; have n0_ := Aside0.mk (Kd.R_below (by (with_reducible repeat (first | apply Kd.R_alloc | apply Kd.R_drewN | apply Kd.R_drew)); exact HO_10.out) hb); have n1_ := Aside0.mk (blk_below (g := gb170) (o := Sm.SM.obj Value.string (Value.int .i64) x171000_1) (by (with_reducible repeat (first | refine blk_drewN ?_ _ | refine blk_drew ?_ | refine blk_alloc ?_ _)); exact BK170.out) hb); have n2_ := Aside0.mk (blk_below (g := gb180) (o := .cells #[.string ((rd_T47 l1 x47_2).f0), .slice (some ad181) ((rd_T47 l1 x47_2).f1).length c179_1, .int .i64 ((rd_T47 l1 x47_2).f2), .int .i64 ((rd_T47 l1 x47_2).f3), .int .i64 ((rd_T47 l1 x47_2).f4)] 47 (0, 0)) (by (with_reducible repeat (first | refine blk_drewN ?_ _ | refine blk_drew ?_ | refine blk_alloc ?_ _)); exact BK180.out) hb); have n3_ := Aside0.mk (below_step (by repeat (first | (with_reducible first | exact HB.out | apply below_alloc | apply pw_below_drewN | apply below_drew1 | refine below_set ?_ GE170.out | refine below_set ?_ GE180.out) | exact HB.out)) hb); have n4_ := Aside0.mk (hbox); have n5_ := Aside0.mk ((by rw [hg]; exact (below_size (by repeat (first | (with_reducible first | exact HB.out | apply below_alloc | apply pw_below_drewN | apply below_drew1 | refine below_set ?_ GE170.out | refine below_set ?_ GE180.out) | exact HB.out))) : w.heap.size ≤ gb182)); have n6_ := Aside0.mk ((by rw [hg]; exact (below_size (by repeat (first | (with_reducible first | exact HB.out | apply below_alloc | apply pw_below_drewN | apply below_drew1 | refine below_set ?_ GE170.out | refine below_set ?_ GE180.out) | exact HB.out))) : w.heap.size ≤ gb182)); have n7_ := Aside0.mk ((by rw [hg]; exact Nat.ne_of_lt (blk_lt (g := gb170) (o := Sm.SM.obj Value.string (Value.int .i64) x171000_1) (by (with_reducible repeat (first | refine blk_drewN ?_ _ | refine blk_drew ?_ | refine blk_alloc ?_ _)); exact BK170.out)) : gb170 ≠ gb182)); have n8_ := Aside0.mk ((by rw [hg]; exact Nat.ne_of_gt (blk_lt (g := gb170) (o := Sm.SM.obj Value.string (Value.int .i64) x171000_1) (by (with_reducible repeat (first | refine blk_drewN ?_ _ | refine blk_drew ?_ | refine blk_alloc ?_ _)); exact BK170.out)) : gb182 ≠ gb170)); have n9_ := Aside0.mk ((by rw [hg]; exact Nat.ne_of_lt (blk_lt (g := gb180) (o := .cells #[.string ((rd_T47 l1 x47_2).f0), .slice (some ad181) ((rd_T47 l1 x47_2).f1).length c179_1, .int .i64 ((rd_T47 l1 x47_2).f2), .int .i64 ((rd_T47 l1 x47_2).f3), .int .i64 ((rd_T47 l1 x47_2).f4)] 47 (0, 0)) (by (with_reducible repeat (first | refine blk_drewN ?_ _ | refine blk_drew ?_ | refine blk_alloc ?_ _)); exact BK180.out)) : gb180 ≠ gb182)); have n10_ := Aside0.mk ((by rw [hg]; exact Nat.ne_of_gt (blk_lt (g := gb180) (o := .cells #[.string ((rd_T47 l1 x47_2).f0), .slice (some ad181) ((rd_T47 l1 x47_2).f1).length c179_1, .int .i64 ((rd_T47 l1 x47_2).f2), .int .i64 ((rd_T47 l1 x47_2).f3), .int .i64 ((rd_T47 l1 x47_2).f4)] 47 (0, 0)) (by (with_reducible repeat (first | refine blk_drewN ?_ _ | refine blk_drew ?_ | refine blk_alloc ?_ _)); exact BK180.out)) : gb182 ≠ gb180)); clear HO_10; clear BK170; clear BK180; clear HB; have HO_10 := n0_; have BK170 := n1_; have BK180 := n2_; have HB := n3_; have BK182 := n4_; have GW182 := n5_; have GE182 := n6_; have NB170_182 := n7_; have NB182_170 := n8_; have NB180_182 := n9_; have NB182_180 := n10_; clear n0_ n1_ n2_ n3_ n4_ n5_ n6_ n7_ n8_ n9_ n10_; clear hb hbox hg; have hnb50 := NB182_170.out; have hnc50 := NB170_182.out; have hnb51 := NB182_180.out; have hnc51 := NB180_182.out; have hcz52_0 : w49.cell? ⟨gb182, 0, none⟩ = some (.string (⟨#[]⟩ : ByteArray)) := (blk_cell BK182.out 0).trans rfl; have hcz52_1 : w49.cell? ⟨gb182, 1, none⟩ = some (.int .i64 0) := (blk_cell BK182.out 1).trans rfl; have hcz52_2 : w49.cell? ⟨gb182, 2, none⟩ = some (.int .i64 0) := (blk_cell BK182.out 2).trans rfl; have hfz52_0 := blk_frozen BK182.out 0; have hfz52_1 := blk_frozen BK182.out 1; have hfz52_2 := blk_frozen BK182.out 2) | ((with_reducible refine gate_dst (N := 62) rfl ?_); refine Sm.look2_event (κ := ByteArray) (β := Int) (ke := Value.string) (ve := (Value.int .i64)) (m := x171000_1) (.tmp 59) (.tmp 61) rfl rfl Try.underlying59 (Sm.SM.key_str Try.underlying9) (z := 0) (fun w_ => Sm.zero_run (by kernel_rfl) w_) ((rd_T36 ((rd_T47 l1 x47_2).f1) x54_3).f0) (by first | rfl | (go_simp; done) | (go_simp; rfl)) (by first | rfl | (go_simp; done) | (go_simp; rfl)) (by (with_reducible repeat (first | refine blk_drewN ?_ _ | refine blk_drew ?_ | refine blk_alloc ?_ _)); refine Sm.blk_farM ?_ NB170_182.out _; (with_reducible repeat (first | refine blk_drewN ?_ _ | refine blk_drew ?_ | refine blk_alloc ?_ _)); refine Sm.blk_farM ?_ NB170_182.out _; (with_reducible repeat (first | refine blk_drewN ?_ _ | refine blk_drew ?_ | refine blk_alloc ?_ _)); refine Sm.blk_farM ?_ NB170_182.out _; (with_reducible repeat (first | refine blk_drewN ?_ _ | refine blk_drew ?_ | refine blk_alloc ?_ _)); exact BK170.out) ?_; (try rw [show (x171000_1.has ((rd_T36 ((rd_T47 l1 x47_2).f1) x54_3).f0)) = true from by assumption]); (try rw [show (x171000_1.has ((rd_T36 ((rd_T47 l1 x47_2).f1) x54_3).f0)) = false from by assumption])))
                  go_roundg k3
                  case measure => have := HK1.out; have := HK2.out; have := HK3.out; omega
                  case rel => exact ⟨(x10_3), (wrap64 (x54_3 + 1)), (by first | rfl | (simp; done) | (simp [*]; done)), H', ⟨by have := HK1.out; have := HK2.out; have := HK3.out; omega⟩, ⟨by (with_reducible repeat (first | apply Kd.R_alloc | apply Kd.R_drewN | apply Kd.R_drew)); exact Kd.R_mono (Kd.R_far (p := ⟨gb182, 2, none⟩) (Kd.R_far (p := ⟨gb182, 1, none⟩) (Kd.R_far (p := ⟨gb182, 0, none⟩) (Kd.R_types HO_10.out BK182.out (by decide)) (fun _ hk => hk.2) (.string ((rd_T36 ((rd_T47 l1 x47_2).f1) x54_3).f0))) (fun _ hk => hk.2) (.int .i64 ((rd_T36 ((rd_T47 l1 x47_2).f1) x54_3).f1))) (fun _ hk => hk.2) (.int .i64 ((rd_T36 ((rd_T47 l1 x47_2).f1) x54_3).f2))) (fun _ hk => trivial)⟩, ⟨by (with_reducible repeat (first | refine blk_drewN ?_ _ | refine blk_drew ?_ | refine blk_alloc ?_ _)); refine Sm.blk_farM ?_ NB170_182.out _; (with_reducible repeat (first | refine blk_drewN ?_ _ | refine blk_drew ?_ | refine blk_alloc ?_ _)); refine Sm.blk_farM ?_ NB170_182.out _; (with_reducible repeat (first | refine blk_drewN ?_ _ | refine blk_drew ?_ | refine blk_alloc ?_ _)); refine Sm.blk_farM ?_ NB170_182.out _; (with_reducible repeat (first | refine blk_drewN ?_ _ | refine blk_drew ?_ | refine blk_alloc ?_ _)); exact BK170.out⟩, ⟨by (with_reducible repeat (first | refine blk_drewN ?_ _ | refine blk_drew ?_ | refine blk_alloc ?_ _)); refine blk_far ?_ NB180_182.out _; (with_reducible repeat (first | refine blk_drewN ?_ _ | refine blk_drew ?_ | refine blk_alloc ?_ _)); refine blk_far ?_ NB180_182.out _; (with_reducible repeat (first | refine blk_drewN ?_ _ | refine blk_drew ?_ | refine blk_alloc ?_ _)); refine blk_far ?_ NB180_182.out _; (with_reducible repeat (first | refine blk_drewN ?_ _ | refine blk_drew ?_ | refine blk_alloc ?_ _)); exact BK180.out⟩, ⟨by repeat (first | (with_reducible first | exact HB.out | apply below_alloc | apply pw_below_drewN | apply below_drew1 | refine below_set ?_ GE170.out | refine below_set ?_ GE180.out | refine below_set ?_ GE182.out) | exact HB.out)⟩⟩
                ·rw [if_neg c36] at H
                 exact absurd H (by simp)
               ·rw [if_neg c35] at H
                exact absurd H (by simp)
              ·rw [if_neg c34] at H
               have c34b0 : decide (x54_3 < (((rd_T47 l1 x47_2).f1).length : Int)) = false := decide_eq_false c34
               clear c34
               have H' := Aside0.mk H
               clear H
               go_wp2
               go_roundg k3
               case measure => have := HK1.out; have := HK2.out; have := HK3.out; omega
               case rel => exact ⟨(x10_3), (wrap64 (x47_2 + 1)), (by first | rfl | (simp; done) | (simp [*]; done)), H', ⟨by have := HK1.out; have := HK2.out; have := HK3.out; omega⟩, ⟨by (with_reducible repeat (first | apply Kd.R_alloc | apply Kd.R_drewN | apply Kd.R_drew)); exact HO_10.out⟩, ⟨by (with_reducible repeat (first | refine blk_drewN ?_ _ | refine blk_drew ?_ | refine blk_alloc ?_ _)); exact BK170.out⟩, ⟨by repeat (first | (with_reducible first | exact HB.out | apply below_alloc | apply pw_below_drewN | apply below_drew1 | refine below_set ?_ GE170.out | refine below_set ?_ GE180.out) | exact HB.out)⟩⟩
           ·rw [if_neg c30] at H
            exact absurd H (by simp)
          ·rw [if_neg c29] at H
           exact absurd H (by simp)
         ·rw [if_neg c28] at H
          have c28b0 : decide (x47_2 < (l1.length : Int)) = false := decide_eq_false c28
          clear c28
          simp only [Option.some.injEq, Prod.mk.injEq] at H
          obtain ⟨rfl, rfl⟩ := H
          go_wp2
          go_ret2
          exact ⟨_, by first | rfl | (simp [errW_none, errW_some] <;> rfl) | (simp [*, errW_none, errW_some] <;> rfl), by (with_reducible repeat (first | apply Kd.R_alloc | apply Kd.R_drewN | apply Kd.R_drew)); exact HO_10.out, by repeat (first | (with_reducible first | exact HB.out | apply below_alloc | apply pw_below_drewN | apply below_drew1 | refine below_set ?_ GE170.out) | exact HB.out)⟩
      ·rw [if_neg c25] at H
       exact absurd H (by simp)
     ·rw [if_neg c24] at H
      exact absurd H (by simp)
 ·rw [if_neg c4] at H
  have c4b0 : (t169 == 0) = false := beq_eq_false_iff_ne.mpr c4
  have c4b1 : (t169 != 0) = true := bne_iff_ne.mpr c4
  simp only [Option.some.injEq, Prod.mk.injEq] at H
  obtain ⟨rfl, rfl⟩ := H
  go_enter Try.func17, Try.ntmps17
  go_wp2_with (first | ((with_reducible refine gate_callee (f := 24) rfl ?_); refine goesL_ (some 19) rfl rfl Try.func24 (by kernel_rfl) rfl #[.slice A0 l0.length c0, .slice A1 l1.length c1] rfl (by (try simp only [List.map_toArray, List.map_cons, List.map_nil]); first | done | rfl | (simp only [List.length_drop, List.length_take]; rfl)) ?_; (with_reducible refine (machine_CheckJobs.calls k _ _ l0 _ _ l1 t169 _ ?side1 ?side2 ?side3 ?side4 A3.out).mono ?_); (case side1 => repeat (first | exact HR0.out | (with_reducible refine Kd.C_alloc ?_ _) | (with_reducible refine Kd.C_drewN ?_ _) | (with_reducible refine Kd.C_drew ?_))); (case side2 => exact HC0.out); (case side3 => repeat (first | exact HR1.out | (with_reducible refine Kd.C_alloc ?_ _) | (with_reducible refine Kd.C_drewN ?_ _) | (with_reducible refine Kd.C_drew ?_))); (case side4 => exact HC1.out); rintro e w53 ⟨rfl, hb⟩; refine ⟨_, rfl, ?_⟩; have n0_ := Aside0.mk (below_step (by repeat (first | (with_reducible first | exact HB.out | apply below_alloc | apply pw_below_drewN | apply below_drew1) | exact HB.out)) hb); clear HB; have HB := n0_; clear n0_; (try clear hb); (try clear hb2); (try clear hk); (try clear hi)))
  go_ret2
  exact ⟨_, by first | rfl | (simp [errW_none, errW_some] <;> rfl) | (simp [*, errW_none, errW_some] <;> rfl), by first | exact Kd.R_nil _ _ _ _ _ | exact Kd.N_nil _ _ _ _ _ | exact Kd.V_nil _ _ _ _ _ | exact Kd.Q_nil _ _ _ _ _ | exact Kd.S_nil _ _ _ _ _, by repeat (first | (with_reducible first | exact HB.out | apply below_alloc | apply pw_below_drewN | apply below_drew1) | exact HB.out)⟩

end Go.Proofs.Ytpfggghpkdnppaa.P
